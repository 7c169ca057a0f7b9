/-
  Tab.
-/
import Derived.Test.YtahgdagcnkpnbaaGreatDoorQAM
import Derived.Test.YtahgdagcnkpnbaaGreatDoorProg
set_option maxHeartbeats 64000000
namespace Go.Proofs.YtahgdagcnkpnbaaGreatDoor
open Go Go.RowKit
instance:UIs Tryz.prog 3 (.int .i64):=⟨Tryz.underlying3⟩
instance:ScIs Tryz.prog 3:=⟨_,Tryz.underlying3,rfl⟩
instance:SzIs Tryz.prog 3 1:=⟨by kernel_rfl⟩
instance:ZcIs Tryz.prog 3 [.int .i64 0]:=⟨by kernel_rfl⟩
instance:UIs Tryz.prog 4 (.bool):=⟨Tryz.underlying4⟩
instance:ScIs Tryz.prog 4:=⟨_,Tryz.underlying4,rfl⟩
instance:SzIs Tryz.prog 4 1:=⟨by kernel_rfl⟩
instance:ZcIs Tryz.prog 4 [.bool false]:=⟨by kernel_rfl⟩
instance:UIs Tryz.prog 5 (.int .u8):=⟨Tryz.underlying5⟩
instance:SzIs Tryz.prog 5 1:=⟨by kernel_rfl⟩
instance:ByIs Tryz.prog 5 1:=⟨by kernel_rfl⟩
instance:ZcIs Tryz.prog 5 [.int .u8 0]:=⟨by kernel_rfl⟩
instance:UIs Tryz.prog 9 (.string):=⟨Tryz.underlying9⟩
instance:ScIs Tryz.prog 9:=⟨_,Tryz.underlying9,rfl⟩
instance:SzIs Tryz.prog 9 1:=⟨by kernel_rfl⟩
instance:ByIs Tryz.prog 9 16:=⟨by kernel_rfl⟩
instance:ZcIs Tryz.prog 9 [strV []]:=⟨by kernel_rfl⟩
instance:UIs Tryz.prog 20 (.interface #[]):=⟨Tryz.underlying20⟩
instance:UIs Tryz.prog 22 (.slice 51):=⟨Tryz.underlying22⟩
instance:ScIs Tryz.prog 22:=⟨_,Tryz.underlying22,rfl⟩
instance:SzIs Tryz.prog 22 1:=⟨by kernel_rfl⟩
instance:ZcIs Tryz.prog 22 [.slice none 0 0]:=⟨by kernel_rfl⟩
instance:UIs Tryz.prog 27 (.pointer 151):=⟨Tryz.underlying27⟩
instance:ScIs Tryz.prog 27:=⟨_,Tryz.underlying27,rfl⟩
instance:SzIs Tryz.prog 27 1:=⟨by kernel_rfl⟩
instance:ZcIs Tryz.prog 27 [.pointer none]:=⟨by kernel_rfl⟩
instance : UIs Tryz.prog 34 (.interface #[("Error", 121)]) := ⟨Tryz.underlying34⟩
instance:ScIs Tryz.prog 34:=⟨_,Tryz.underlying34,rfl⟩
instance:SzIs Tryz.prog 34 1:=⟨by kernel_rfl⟩
instance:ZcIs Tryz.prog 34 [.nilIface]:=⟨by kernel_rfl⟩
instance:UIs Tryz.prog 37 (.slice 43):=⟨Tryz.underlying37⟩
instance:ScIs Tryz.prog 37:=⟨_,Tryz.underlying37,rfl⟩
instance:SzIs Tryz.prog 37 1:=⟨by kernel_rfl⟩
instance:ZcIs Tryz.prog 37 [.slice none 0 0]:=⟨by kernel_rfl⟩
instance : UIs Tryz.prog 43 (.struct #[{ name := "Delete", type := 4, offset := 0, embedded := false, tag := "", pkgPath := "", byteOffset := 0 }, { name := "Key", type := 9, offset := 1, embedded := false, tag := "", pkgPath := "", byteOffset := 8 }, { name := "Value", type := 9, offset := 2, embedded := false, tag := "", pkgPath := "", byteOffset := 24 }]) := ⟨Tryz.underlying43⟩
instance:AgIs Tryz.prog 43:=⟨_,Tryz.underlying43,rfl⟩
instance:FldIs Tryz.prog 43 0 4 0:=⟨_,_,Tryz.underlying43,rfl,rfl,rfl⟩
instance:FldIs Tryz.prog 43 1 9 1:=⟨_,_,Tryz.underlying43,rfl,rfl,rfl⟩
instance:FldIs Tryz.prog 43 2 9 2:=⟨_,_,Tryz.underlying43,rfl,rfl,rfl⟩
instance:SzIs Tryz.prog 43 3:=⟨by kernel_rfl⟩
instance:ByIs Tryz.prog 43 40:=⟨by kernel_rfl⟩
instance:BuIs Tryz.prog 43 [.bool false,strV [],strV []] [(0,1),(1,1),(2,1)]:=⟨fun _=>by kernel_rfl⟩
instance:ZcIs Tryz.prog 43 [.bool false,strV [],strV []]:=⟨by kernel_rfl⟩
instance : UIs Tryz.prog 51 (.struct #[{ name := "Key", type := 9, offset := 0, embedded := false, tag := "", pkgPath := "", byteOffset := 0 }, { name := "Value", type := 9, offset := 1, embedded := false, tag := "", pkgPath := "", byteOffset := 16 }]) := ⟨Tryz.underlying51⟩
instance:AgIs Tryz.prog 51:=⟨_,Tryz.underlying51,rfl⟩
instance:FldIs Tryz.prog 51 0 9 0:=⟨_,_,Tryz.underlying51,rfl,rfl,rfl⟩
instance:FldIs Tryz.prog 51 1 9 1:=⟨_,_,Tryz.underlying51,rfl,rfl,rfl⟩
instance:SzIs Tryz.prog 51 2:=⟨by kernel_rfl⟩
instance:ByIs Tryz.prog 51 32:=⟨by kernel_rfl⟩
instance:BuIs Tryz.prog 51 [strV [],strV []] [(0,1),(1,1)]:=⟨fun _=>by kernel_rfl⟩
instance:ZcIs Tryz.prog 51 [strV [],strV []]:=⟨by kernel_rfl⟩
instance:UIs Tryz.prog 65 (.func #[145] #[] false):=⟨Tryz.underlying65⟩
instance:UIs Tryz.prog 74 (.pointer 171):=⟨Tryz.underlying74⟩
instance:ScIs Tryz.prog 74:=⟨_,Tryz.underlying74,rfl⟩
instance:SzIs Tryz.prog 74 1:=⟨by kernel_rfl⟩
instance:UIs Tryz.prog 109 (.slice 9):=⟨Tryz.underlying109⟩
instance:ScIs Tryz.prog 137:=⟨_,Tryz.underlying137,rfl⟩
instance:SzIs Tryz.prog 137 1:=⟨by kernel_rfl⟩
instance:ScIs Tryz.prog 145:=⟨_,Tryz.underlying145,rfl⟩
instance:UIs Tryz.prog 146 (.array 2 3):=⟨Tryz.underlying146⟩
instance:SzIs Tryz.prog 146 2:=⟨by kernel_rfl⟩
instance:AgIs Tryz.prog 148:=⟨_,Tryz.underlying148,rfl⟩
instance:FldIs Tryz.prog 148 0 146 0:=⟨_,_,Tryz.underlying148,rfl,rfl,rfl⟩
instance:FldIs Tryz.prog 148 1 3 2:=⟨_,_,Tryz.underlying148,rfl,rfl,rfl⟩
instance:FldIs Tryz.prog 148 2 3 3:=⟨_,_,Tryz.underlying148,rfl,rfl,rfl⟩
instance:FldIs Tryz.prog 148 3 3 4:=⟨_,_,Tryz.underlying148,rfl,rfl,rfl⟩
instance:SzIs Tryz.prog 148 5:=⟨by kernel_rfl⟩
instance:BuIs Tryz.prog 148 [.int .i64 0,.int .i64 0,.int .i64 0,.int .i64 0,.int .i64 0] [(0,2),(2,1),(3,1),(4,1)]:=⟨fun _=>by kernel_rfl⟩
instance:ZcIs Tryz.prog 148 [.int .i64 0,.int .i64 0,.int .i64 0,.int .i64 0,.int .i64 0]:=⟨by kernel_rfl⟩
instance:ScIs Tryz.prog 149:=⟨_,Tryz.underlying149,rfl⟩
instance:SzIs Tryz.prog 149 1:=⟨by kernel_rfl⟩
instance:FldIs Tryz.prog 151 0 74 0:=⟨_,_,Tryz.underlying151,rfl,rfl,rfl⟩
instance:FldIs Tryz.prog 151 1 148 1:=⟨_,_,Tryz.underlying151,rfl,rfl,rfl⟩
instance:FldIs Tryz.prog 151 2 137 6:=⟨_,_,Tryz.underlying151,rfl,rfl,rfl⟩
instance:FldIs Tryz.prog 151 3 3 7:=⟨_,_,Tryz.underlying151,rfl,rfl,rfl⟩
instance:FldIs Tryz.prog 151 4 149 8:=⟨_,_,Tryz.underlying151,rfl,rfl,rfl⟩
instance:FldIs Tryz.prog 151 5 3 9:=⟨_,_,Tryz.underlying151,rfl,rfl,rfl⟩
instance:FldIs Tryz.prog 151 6 4 10:=⟨_,_,Tryz.underlying151,rfl,rfl,rfl⟩
instance:BuIs Tryz.prog 151 [.pointer none,.int .i64 0,.int .i64 0,.int .i64 0,.int .i64 0,.int .i64 0,.pointer none,.int .i64 0,.pointer none,.int .i64 0,.bool false] [(0,1),(1,5),(6,1),(7,1),(8,1),(9,1),(10,1)]:=⟨fun _=>by kernel_rfl⟩
instance:UIs Tryz.prog 184 (.slice 5):=⟨Tryz.underlying184⟩
instance:ScIs Tryz.prog 184:=⟨_,Tryz.underlying184,rfl⟩
instance:SzIs Tryz.prog 184 1:=⟨by kernel_rfl⟩
instance:UIs Tryz.prog 195 (.pointer 270):=⟨Tryz.underlying195⟩
instance:ScIs Tryz.prog 195:=⟨_,Tryz.underlying195,rfl⟩
instance:SzIs Tryz.prog 195 1:=⟨by kernel_rfl⟩
instance:ZcIs Tryz.prog 195 [.pointer none]:=⟨by kernel_rfl⟩
instance:AgIs Tryz.prog 197:=⟨_,Tryz.underlying197,rfl⟩
instance:FldIs Tryz.prog 197 0 195 0:=⟨_,_,Tryz.underlying197,rfl,rfl,rfl⟩
instance:FldIs Tryz.prog 197 1 3 1:=⟨_,_,Tryz.underlying197,rfl,rfl,rfl⟩
instance:SzIs Tryz.prog 197 2:=⟨by kernel_rfl⟩
instance:BuIs Tryz.prog 197 [.pointer none,.int .i64 0] [(0,1),(1,1)]:=⟨fun _=>by kernel_rfl⟩
instance:ZcIs Tryz.prog 197 [.pointer none,.int .i64 0]:=⟨by kernel_rfl⟩
instance:UIs Tryz.prog 208 (.map 9 43):=⟨Tryz.underlying208⟩
instance:ScIs Tryz.prog 216:=⟨_,Tryz.underlying216,rfl⟩
instance:SzIs Tryz.prog 216 1:=⟨by kernel_rfl⟩
instance:ZcIs Tryz.prog 216 [.pointer none]:=⟨by kernel_rfl⟩
instance:UIs Tryz.prog 219 (.int .u64):=⟨Tryz.underlying219⟩
instance : UIs Tryz.prog 225 (.struct #[{ name := "err", type := 34, offset := 0, embedded := false, tag := "", pkgPath := "remit/store", byteOffset := 0 }]) := ⟨Tryz.underlying225⟩
instance:FldIs Tryz.prog 225 0 34 0:=⟨_,_,Tryz.underlying225,rfl,rfl,rfl⟩
instance:SzIs Tryz.prog 225 1:=⟨by kernel_rfl⟩
instance:BuIs Tryz.prog 225 [.nilIface] [(0,1)]:=⟨fun _=>by kernel_rfl⟩
instance:ZcIs Tryz.prog 225 [.nilIface]:=⟨by kernel_rfl⟩
instance:ScIs Tryz.prog 227:=⟨_,Tryz.underlying227,rfl⟩
instance:AgIs Tryz.prog 243:=⟨_,Tryz.underlying243,rfl⟩
instance:FldIs Tryz.prog 243 0 74 0:=⟨_,_,Tryz.underlying243,rfl,rfl,rfl⟩
instance:FldIs Tryz.prog 243 1 3 1:=⟨_,_,Tryz.underlying243,rfl,rfl,rfl⟩
instance:FldIs Tryz.prog 243 2 3 2:=⟨_,_,Tryz.underlying243,rfl,rfl,rfl⟩
instance:FldIs Tryz.prog 243 3 3 3:=⟨_,_,Tryz.underlying243,rfl,rfl,rfl⟩
instance:SzIs Tryz.prog 243 4:=⟨by kernel_rfl⟩
instance:BuIs Tryz.prog 243 [.pointer none,.int .i64 0,.int .i64 0,.int .i64 0] [(0,1),(1,1),(2,1),(3,1)]:=⟨fun _=>by kernel_rfl⟩
instance:ZcIs Tryz.prog 243 [.pointer none,.int .i64 0,.int .i64 0,.int .i64 0]:=⟨by kernel_rfl⟩
instance:FldIs Tryz.prog 245 0 243 0:=⟨_,_,Tryz.underlying245,rfl,rfl,rfl⟩
instance:FldIs Tryz.prog 245 1 3 4:=⟨_,_,Tryz.underlying245,rfl,rfl,rfl⟩
instance:FldIs Tryz.prog 245 2 3 5:=⟨_,_,Tryz.underlying245,rfl,rfl,rfl⟩
instance:FldIs Tryz.prog 245 3 4 6:=⟨_,_,Tryz.underlying245,rfl,rfl,rfl⟩
instance:BuIs Tryz.prog 245 [.pointer none,.int .i64 0,.int .i64 0,.int .i64 0,.int .i64 0,.int .i64 0,.bool false] [(0,4),(4,1),(5,1),(6,1)]:=⟨fun _=>by kernel_rfl⟩
instance:FldIs Tryz.prog 270 0 9 0:=⟨_,_,Tryz.underlying270,rfl,rfl,rfl⟩
instance:FldIs Tryz.prog 270 1 9 1:=⟨_,_,Tryz.underlying270,rfl,rfl,rfl⟩
instance:FldIs Tryz.prog 270 2 195 2:=⟨_,_,Tryz.underlying270,rfl,rfl,rfl⟩
instance:FldIs Tryz.prog 270 3 195 3:=⟨_,_,Tryz.underlying270,rfl,rfl,rfl⟩
instance:FldIs Tryz.prog 270 4 3 4:=⟨_,_,Tryz.underlying270,rfl,rfl,rfl⟩
instance:FldIs Tryz.prog 270 5 3 5:=⟨_,_,Tryz.underlying270,rfl,rfl,rfl⟩
instance:BuIs Tryz.prog 270 [strV [],strV [],.pointer none,.pointer none,.int .i64 0,.int .i64 0] [(0,1),(1,1),(2,1),(3,1),(4,1),(5,1)]:=⟨fun _=>by kernel_rfl⟩
instance:UIs Tryz.prog 272 (.unsafePointer):=⟨Tryz.underlying272⟩
instance:FldIs Tryz.prog 287 0 184 0:=⟨_,_,Tryz.underlying287,rfl,rfl,rfl⟩
instance:BuIs Tryz.prog 287 [.slice none 0 0] [(0,1)]:=⟨fun _=>by kernel_rfl⟩
instance:FldIs Tryz.prog 290 0 9 0:=⟨_,_,Tryz.underlying290,rfl,rfl,rfl⟩
instance:FldIs Tryz.prog 290 1 3 1:=⟨_,_,Tryz.underlying290,rfl,rfl,rfl⟩
instance:BuIs Tryz.prog 290 [strV [],.int .i64 0] [(0,1),(1,1)]:=⟨fun _=>by kernel_rfl⟩
instance:UIs Tryz.prog 293 (.pointer 295):=⟨Tryz.underlying293⟩
instance:ScIs Tryz.prog 293:=⟨_,Tryz.underlying293,rfl⟩
instance:SzIs Tryz.prog 293 1:=⟨by kernel_rfl⟩
instance:FldIs Tryz.prog 295 0 293 0:=⟨_,_,Tryz.underlying295,rfl,rfl,rfl⟩
instance:FldIs Tryz.prog 295 1 184 1:=⟨_,_,Tryz.underlying295,rfl,rfl,rfl⟩
instance:SzIs Tryz.prog 295 2:=⟨by kernel_rfl⟩
instance:ZcIs Tryz.prog 295 [.pointer none,.slice none 0 0]:=⟨by kernel_rfl⟩
instance:UIs Tryz.prog 302 (.int .u32):=⟨Tryz.underlying302⟩
instance:ScIs Tryz.prog 302:=⟨_,Tryz.underlying302,rfl⟩
instance:SzIs Tryz.prog 302 1:=⟨by kernel_rfl⟩
instance:UIs Tryz.prog 336 (.pointer 5):=⟨Tryz.underlying336⟩
instance:UIs Tryz.prog 364 (.array 16 302):=⟨Tryz.underlying364⟩
instance:FnIs Tryz.prog 38:=⟨by kernel_rfl⟩
instance:FnIs Tryz.prog 39:=⟨by kernel_rfl⟩
instance:FnIs Tryz.prog 42:=⟨by kernel_rfl⟩
instance:FnIs Tryz.prog 43:=⟨by kernel_rfl⟩
instance:FnIs Tryz.prog 45:=⟨by kernel_rfl⟩
instance:FnIs Tryz.prog 56:=⟨by kernel_rfl⟩
instance:FnIs Tryz.prog 74:=⟨by kernel_rfl⟩
instance:FnIs Tryz.prog 76:=⟨by kernel_rfl⟩
instance:FnIs Tryz.prog 79:=⟨by kernel_rfl⟩
instance:FnIs Tryz.prog 80:=⟨by kernel_rfl⟩
instance:FnIs Tryz.prog 82:=⟨by kernel_rfl⟩
instance:FnIs Tryz.prog 83:=⟨by kernel_rfl⟩
instance:FnIs Tryz.prog 95:=⟨by kernel_rfl⟩
instance:FnIs Tryz.prog 97:=⟨by kernel_rfl⟩
instance:FnIs Tryz.prog 98:=⟨by kernel_rfl⟩
instance:FnIs Tryz.prog 100:=⟨by kernel_rfl⟩
instance:FnIs Tryz.prog 105:=⟨by kernel_rfl⟩
instance:FnIs Tryz.prog 107:=⟨by kernel_rfl⟩
instance:FnIs Tryz.prog 109:=⟨by kernel_rfl⟩
instance:FnIs Tryz.prog 110:=⟨by kernel_rfl⟩
instance:FnIs Tryz.prog 111:=⟨by kernel_rfl⟩
instance:FnIs Tryz.prog 130:=⟨by kernel_rfl⟩
instance:FnIs Tryz.prog 132:=⟨by kernel_rfl⟩
instance:FnIs Tryz.prog 133:=⟨by kernel_rfl⟩
instance:FnIs Tryz.prog 134:=⟨by kernel_rfl⟩
instance:FnIs Tryz.prog 136:=⟨by kernel_rfl⟩
instance:FnIs Tryz.prog 137:=⟨by kernel_rfl⟩
instance:FnIs Tryz.prog 145:=⟨by kernel_rfl⟩
instance:FnIs Tryz.prog 147:=⟨by kernel_rfl⟩
instance:FnIs Tryz.prog 148:=⟨by kernel_rfl⟩
instance:FnIs Tryz.prog 149:=⟨by kernel_rfl⟩
instance:FnIs Tryz.prog 150:=⟨by kernel_rfl⟩
instance:FnIs Tryz.prog 152:=⟨by kernel_rfl⟩
instance:FnIs Tryz.prog 153:=⟨by kernel_rfl⟩
instance:FnIs Tryz.prog 154:=⟨by kernel_rfl⟩
instance:FnIs Tryz.prog 155:=⟨by kernel_rfl⟩
instance:FnIs Tryz.prog 156:=⟨by kernel_rfl⟩
instance:FnIs Tryz.prog 157:=⟨by kernel_rfl⟩
instance:FnIs Tryz.prog 159:=⟨by kernel_rfl⟩
instance:FnIs Tryz.prog 160:=⟨by kernel_rfl⟩
instance:FnIs Tryz.prog 161:=⟨by kernel_rfl⟩
instance:FnIs Tryz.prog 162:=⟨by kernel_rfl⟩
instance:FnIs Tryz.prog 163:=⟨by kernel_rfl⟩
instance:FnIs Tryz.prog 164:=⟨by kernel_rfl⟩
instance:FnIs Tryz.prog 165:=⟨by kernel_rfl⟩
instance:FnIs Tryz.prog 167:=⟨by kernel_rfl⟩
instance:FnIs Tryz.prog 169:=⟨by kernel_rfl⟩
instance:FnIs Tryz.prog 170:=⟨by kernel_rfl⟩
instance:FnIs Tryz.prog 171:=⟨by kernel_rfl⟩
instance:FnIs Tryz.prog 172:=⟨by kernel_rfl⟩
instance:FnIs Tryz.prog 173:=⟨by kernel_rfl⟩
instance:FnIs Tryz.prog 174:=⟨by kernel_rfl⟩
instance:FnIs Tryz.prog 175:=⟨by kernel_rfl⟩
instance:FnIs Tryz.prog 176:=⟨by kernel_rfl⟩
instance:FnIs Tryz.prog 177:=⟨by kernel_rfl⟩
instance:FnIs Tryz.prog 178:=⟨by kernel_rfl⟩
instance:FnIs Tryz.prog 180:=⟨by kernel_rfl⟩
instance:FnIs Tryz.prog 202:=⟨by kernel_rfl⟩
instance:FnIs Tryz.prog 203:=⟨by kernel_rfl⟩
instance:FnIs Tryz.prog 204:=⟨by kernel_rfl⟩
instance:FnIs Tryz.prog 205:=⟨by kernel_rfl⟩
instance:FnIs Tryz.prog 215:=⟨by kernel_rfl⟩
instance:FnIs Tryz.prog 216:=⟨by kernel_rfl⟩
instance:FnIs Tryz.prog 217:=⟨by kernel_rfl⟩
instance:FnIs Tryz.prog 218:=⟨by kernel_rfl⟩
instance:FnIs Tryz.prog 219:=⟨by kernel_rfl⟩
instance:FnIs Tryz.prog 220:=⟨by kernel_rfl⟩
instance:FnIs Tryz.prog 221:=⟨by kernel_rfl⟩
instance:FnIs Tryz.prog 222:=⟨by kernel_rfl⟩
instance:FnIs Tryz.prog 223:=⟨by kernel_rfl⟩
instance:FnIs Tryz.prog 224:=⟨by kernel_rfl⟩
instance:FnIs Tryz.prog 225:=⟨by kernel_rfl⟩
instance:FnIs Tryz.prog 226:=⟨by kernel_rfl⟩
instance:FnIs Tryz.prog 228:=⟨by kernel_rfl⟩
instance:FnIs Tryz.prog 229:=⟨by kernel_rfl⟩
instance:FnIs Tryz.prog 249:=⟨by kernel_rfl⟩
instance:FnIs Tryz.prog 269:=⟨by kernel_rfl⟩
instance:FnIs Tryz.prog 270:=⟨by kernel_rfl⟩
instance:FnIs Tryz.prog 271:=⟨by kernel_rfl⟩
instance:FnIs Tryz.prog 272:=⟨by kernel_rfl⟩
instance:FnIs Tryz.prog 273:=⟨by kernel_rfl⟩
instance:FnIs Tryz.prog 275:=⟨by kernel_rfl⟩
end Go.Proofs.YtahgdagcnkpnbaaGreatDoor

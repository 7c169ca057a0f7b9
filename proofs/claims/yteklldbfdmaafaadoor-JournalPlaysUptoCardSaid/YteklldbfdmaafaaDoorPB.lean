/-
  Tab, Disk0, Disk1, Disk2, Disk3, Disk4, Disk5, Disk6, Disk7, Disk8, Disk9, DiskA, Num, Sect, Script, DiskC, Mor2, Gen, Mor3, Mor4, Mor5.
-/
import Derived.Test.YteklldbfdmaafaaDoorProg
import Derived.WalkKit
import Derived.WalkLawsBesides
import Derived.WalkSpells
import Derived.Maps.OwnSet
import Derived.KernelRfl
import Derived.BigQuiet
import Derived.Deep.QuietTactic
import Derived.Lib.Hide
import Derived.Deep.Cut
import Derived.Deep.CutBlock
import Derived.Deep.CutRange
import Derived.Outline
import Derived.Maps.RangeWalk
import Derived.StillTailTactics
import Derived.Deep.RegionHeld3
import Derived.Lib.AppendStr
import Derived.Test.YteklldbfdmaafaaDoorPA
/-
  What the program says of its types and functions, by their numbers (printed by gentab.py).
-/
namespace Go.Proofs.YteklldbfdmaafaaDoor
open Go Go.RowKit
instance : UIs Tryd.prog 1 (.func #[] #[] false) := ⟨Tryd.underlying1⟩
instance : ScIs Tryd.prog 1 := ⟨_, Tryd.underlying1, rfl⟩
instance : SzIs Tryd.prog 1 1 := ⟨by kernel_rfl⟩
instance : ByIs Tryd.prog 1 8 := ⟨by kernel_rfl⟩
instance : ZcIs Tryd.prog 1 [.nilFunc] := ⟨by kernel_rfl⟩
instance : UIs Tryd.prog 2 (.int .i64) := ⟨Tryd.underlying2⟩
instance : ScIs Tryd.prog 2 := ⟨_, Tryd.underlying2, rfl⟩
instance : SzIs Tryd.prog 2 1 := ⟨by kernel_rfl⟩
instance : ByIs Tryd.prog 2 8 := ⟨by kernel_rfl⟩
instance : ZcIs Tryd.prog 2 [.int .i64 0] := ⟨by kernel_rfl⟩
instance : UIs Tryd.prog 3 (.int .i64) := ⟨Tryd.underlying3⟩
instance : ScIs Tryd.prog 3 := ⟨_, Tryd.underlying3, rfl⟩
instance : SzIs Tryd.prog 3 1 := ⟨by kernel_rfl⟩
instance : ByIs Tryd.prog 3 8 := ⟨by kernel_rfl⟩
instance : ZcIs Tryd.prog 3 [.int .i64 0] := ⟨by kernel_rfl⟩
instance : UIs Tryd.prog 4 (.bool) := ⟨Tryd.underlying4⟩
instance : ScIs Tryd.prog 4 := ⟨_, Tryd.underlying4, rfl⟩
instance : SzIs Tryd.prog 4 1 := ⟨by kernel_rfl⟩
instance : ByIs Tryd.prog 4 1 := ⟨by kernel_rfl⟩
instance : ZcIs Tryd.prog 4 [.bool false] := ⟨by kernel_rfl⟩
instance : UIs Tryd.prog 5 (.int .u8) := ⟨Tryd.underlying5⟩
instance : ScIs Tryd.prog 5 := ⟨_, Tryd.underlying5, rfl⟩
instance : SzIs Tryd.prog 5 1 := ⟨by kernel_rfl⟩
instance : ByIs Tryd.prog 5 1 := ⟨by kernel_rfl⟩
instance : ZcIs Tryd.prog 5 [.int .u8 0] := ⟨by kernel_rfl⟩
instance : UIs Tryd.prog 6 (.int .u8) := ⟨Tryd.underlying6⟩
instance : ScIs Tryd.prog 6 := ⟨_, Tryd.underlying6, rfl⟩
instance : SzIs Tryd.prog 6 1 := ⟨by kernel_rfl⟩
instance : ByIs Tryd.prog 6 1 := ⟨by kernel_rfl⟩
instance : ZcIs Tryd.prog 6 [.int .u8 0] := ⟨by kernel_rfl⟩
instance : UIs Tryd.prog 7 (.struct #[{ name := "x", type := 2, offset := 0, embedded := false, tag := "", pkgPath := "runtime", byteOffset := 0 }, { name := "y", type := 3, offset := 1, embedded := false, tag := "", pkgPath := "runtime", byteOffset := 8 }, { name := "signed", type := 4, offset := 2, embedded := false, tag := "", pkgPath := "runtime", byteOffset := 16 }, { name := "code", type := 6, offset := 3, embedded := false, tag := "", pkgPath := "runtime", byteOffset := 17 }]) := ⟨Tryd.underlying7⟩
instance : AgIs Tryd.prog 7 := ⟨_, Tryd.underlying7, rfl⟩
instance : FldIs Tryd.prog 7 0 2 0 := ⟨_, _, Tryd.underlying7, rfl, rfl, rfl⟩
instance : FldIs Tryd.prog 7 1 3 1 := ⟨_, _, Tryd.underlying7, rfl, rfl, rfl⟩
instance : FldIs Tryd.prog 7 2 4 2 := ⟨_, _, Tryd.underlying7, rfl, rfl, rfl⟩
instance : FldIs Tryd.prog 7 3 6 3 := ⟨_, _, Tryd.underlying7, rfl, rfl, rfl⟩
instance : SzIs Tryd.prog 7 4 := ⟨by kernel_rfl⟩
instance : ByIs Tryd.prog 7 24 := ⟨by kernel_rfl⟩
instance : BuIs Tryd.prog 7 [.int .i64 0, .int .i64 0, .bool false, .int .u8 0] [(0, 1), (1, 1), (2, 1), (3, 1)] := ⟨fun _ => by kernel_rfl⟩
instance : ZcIs Tryd.prog 7 [.int .i64 0, .int .i64 0, .bool false, .int .u8 0] := ⟨by kernel_rfl⟩
instance : UIs Tryd.prog 8 (.struct #[{ name := "x", type := 2, offset := 0, embedded := false, tag := "", pkgPath := "runtime", byteOffset := 0 }, { name := "y", type := 3, offset := 1, embedded := false, tag := "", pkgPath := "runtime", byteOffset := 8 }, { name := "signed", type := 4, offset := 2, embedded := false, tag := "", pkgPath := "runtime", byteOffset := 16 }, { name := "code", type := 6, offset := 3, embedded := false, tag := "", pkgPath := "runtime", byteOffset := 17 }]) := ⟨Tryd.underlying8⟩
instance : AgIs Tryd.prog 8 := ⟨_, Tryd.underlying8, rfl⟩
instance : FldIs Tryd.prog 8 0 2 0 := ⟨_, _, Tryd.underlying8, rfl, rfl, rfl⟩
instance : FldIs Tryd.prog 8 1 3 1 := ⟨_, _, Tryd.underlying8, rfl, rfl, rfl⟩
instance : FldIs Tryd.prog 8 2 4 2 := ⟨_, _, Tryd.underlying8, rfl, rfl, rfl⟩
instance : FldIs Tryd.prog 8 3 6 3 := ⟨_, _, Tryd.underlying8, rfl, rfl, rfl⟩
instance : SzIs Tryd.prog 8 4 := ⟨by kernel_rfl⟩
instance : ByIs Tryd.prog 8 24 := ⟨by kernel_rfl⟩
instance : BuIs Tryd.prog 8 [.int .i64 0, .int .i64 0, .bool false, .int .u8 0] [(0, 1), (1, 1), (2, 1), (3, 1)] := ⟨fun _ => by kernel_rfl⟩
instance : ZcIs Tryd.prog 8 [.int .i64 0, .int .i64 0, .bool false, .int .u8 0] := ⟨by kernel_rfl⟩
instance : UIs Tryd.prog 9 (.string) := ⟨Tryd.underlying9⟩
instance : ScIs Tryd.prog 9 := ⟨_, Tryd.underlying9, rfl⟩
instance : SzIs Tryd.prog 9 1 := ⟨by kernel_rfl⟩
instance : ByIs Tryd.prog 9 16 := ⟨by kernel_rfl⟩
instance : ZcIs Tryd.prog 9 [strV []] := ⟨by kernel_rfl⟩
instance : UIs Tryd.prog 10 (.string) := ⟨Tryd.underlying10⟩
instance : ScIs Tryd.prog 10 := ⟨_, Tryd.underlying10, rfl⟩
instance : SzIs Tryd.prog 10 1 := ⟨by kernel_rfl⟩
instance : ByIs Tryd.prog 10 16 := ⟨by kernel_rfl⟩
instance : ZcIs Tryd.prog 10 [strV []] := ⟨by kernel_rfl⟩
instance : UIs Tryd.prog 11 (.string) := ⟨Tryd.underlying11⟩
instance : ScIs Tryd.prog 11 := ⟨_, Tryd.underlying11, rfl⟩
instance : SzIs Tryd.prog 11 1 := ⟨by kernel_rfl⟩
instance : ByIs Tryd.prog 11 16 := ⟨by kernel_rfl⟩
instance : ZcIs Tryd.prog 11 [strV []] := ⟨by kernel_rfl⟩
instance : UIs Tryd.prog 12 (.int .u64) := ⟨Tryd.underlying12⟩
instance : ScIs Tryd.prog 12 := ⟨_, Tryd.underlying12, rfl⟩
instance : SzIs Tryd.prog 12 1 := ⟨by kernel_rfl⟩
instance : ByIs Tryd.prog 12 8 := ⟨by kernel_rfl⟩
instance : ZcIs Tryd.prog 12 [.int .u64 0] := ⟨by kernel_rfl⟩
instance : UIs Tryd.prog 13 (.struct #[{ name := "msg", type := 9, offset := 0, embedded := false, tag := "", pkgPath := "runtime", byteOffset := 0 }, { name := "addr", type := 12, offset := 1, embedded := false, tag := "", pkgPath := "runtime", byteOffset := 16 }]) := ⟨Tryd.underlying13⟩
instance : AgIs Tryd.prog 13 := ⟨_, Tryd.underlying13, rfl⟩
instance : FldIs Tryd.prog 13 0 9 0 := ⟨_, _, Tryd.underlying13, rfl, rfl, rfl⟩
instance : FldIs Tryd.prog 13 1 12 1 := ⟨_, _, Tryd.underlying13, rfl, rfl, rfl⟩
instance : SzIs Tryd.prog 13 2 := ⟨by kernel_rfl⟩
instance : ByIs Tryd.prog 13 24 := ⟨by kernel_rfl⟩
instance : BuIs Tryd.prog 13 [strV [], .int .u64 0] [(0, 1), (1, 1)] := ⟨fun _ => by kernel_rfl⟩
instance : ZcIs Tryd.prog 13 [strV [], .int .u64 0] := ⟨by kernel_rfl⟩
instance : UIs Tryd.prog 14 (.struct #[{ name := "msg", type := 9, offset := 0, embedded := false, tag := "", pkgPath := "runtime", byteOffset := 0 }, { name := "addr", type := 12, offset := 1, embedded := false, tag := "", pkgPath := "runtime", byteOffset := 16 }]) := ⟨Tryd.underlying14⟩
instance : AgIs Tryd.prog 14 := ⟨_, Tryd.underlying14, rfl⟩
instance : FldIs Tryd.prog 14 0 9 0 := ⟨_, _, Tryd.underlying14, rfl, rfl, rfl⟩
instance : FldIs Tryd.prog 14 1 12 1 := ⟨_, _, Tryd.underlying14, rfl, rfl, rfl⟩
instance : SzIs Tryd.prog 14 2 := ⟨by kernel_rfl⟩
instance : ByIs Tryd.prog 14 24 := ⟨by kernel_rfl⟩
instance : BuIs Tryd.prog 14 [strV [], .int .u64 0] [(0, 1), (1, 1)] := ⟨fun _ => by kernel_rfl⟩
instance : ZcIs Tryd.prog 14 [strV [], .int .u64 0] := ⟨by kernel_rfl⟩
instance : UIs Tryd.prog 15 (.pointer 206) := ⟨Tryd.underlying15⟩
instance : ScIs Tryd.prog 15 := ⟨_, Tryd.underlying15, rfl⟩
instance : SzIs Tryd.prog 15 1 := ⟨by kernel_rfl⟩
instance : ByIs Tryd.prog 15 8 := ⟨by kernel_rfl⟩
instance : ZcIs Tryd.prog 15 [.pointer none] := ⟨by kernel_rfl⟩
instance : UIs Tryd.prog 16 (.pointer 209) := ⟨Tryd.underlying16⟩
instance : ScIs Tryd.prog 16 := ⟨_, Tryd.underlying16, rfl⟩
instance : SzIs Tryd.prog 16 1 := ⟨by kernel_rfl⟩
instance : ByIs Tryd.prog 16 8 := ⟨by kernel_rfl⟩
instance : ZcIs Tryd.prog 16 [.pointer none] := ⟨by kernel_rfl⟩
instance : UIs Tryd.prog 17 (.pointer 216) := ⟨Tryd.underlying17⟩
instance : ScIs Tryd.prog 17 := ⟨_, Tryd.underlying17, rfl⟩
instance : SzIs Tryd.prog 17 1 := ⟨by kernel_rfl⟩
instance : ByIs Tryd.prog 17 8 := ⟨by kernel_rfl⟩
instance : ZcIs Tryd.prog 17 [.pointer none] := ⟨by kernel_rfl⟩
instance : UIs Tryd.prog 18 (.struct #[{ name := "typ", type := 17, offset := 0, embedded := false, tag := "", pkgPath := "internal/runtime/maps", byteOffset := 0 }]) := ⟨Tryd.underlying18⟩
instance : AgIs Tryd.prog 18 := ⟨_, Tryd.underlying18, rfl⟩
instance : FldIs Tryd.prog 18 0 17 0 := ⟨_, _, Tryd.underlying18, rfl, rfl, rfl⟩
instance : SzIs Tryd.prog 18 1 := ⟨by kernel_rfl⟩
instance : ByIs Tryd.prog 18 8 := ⟨by kernel_rfl⟩
instance : BuIs Tryd.prog 18 [.pointer none] [(0, 1)] := ⟨fun _ => by kernel_rfl⟩
instance : ZcIs Tryd.prog 18 [.pointer none] := ⟨by kernel_rfl⟩
instance : UIs Tryd.prog 19 (.struct #[{ name := "typ", type := 17, offset := 0, embedded := false, tag := "", pkgPath := "internal/runtime/maps", byteOffset := 0 }]) := ⟨Tryd.underlying19⟩
instance : AgIs Tryd.prog 19 := ⟨_, Tryd.underlying19, rfl⟩
instance : FldIs Tryd.prog 19 0 17 0 := ⟨_, _, Tryd.underlying19, rfl, rfl, rfl⟩
instance : SzIs Tryd.prog 19 1 := ⟨by kernel_rfl⟩
instance : ByIs Tryd.prog 19 8 := ⟨by kernel_rfl⟩
instance : BuIs Tryd.prog 19 [.pointer none] [(0, 1)] := ⟨fun _ => by kernel_rfl⟩
instance : ZcIs Tryd.prog 19 [.pointer none] := ⟨by kernel_rfl⟩
instance : UIs Tryd.prog 20 (.interface #[]) := ⟨Tryd.underlying20⟩
instance : ScIs Tryd.prog 20 := ⟨_, Tryd.underlying20, rfl⟩
instance : SzIs Tryd.prog 20 1 := ⟨by kernel_rfl⟩
instance : ByIs Tryd.prog 20 16 := ⟨by kernel_rfl⟩
instance : ZcIs Tryd.prog 20 [.nilIface] := ⟨by kernel_rfl⟩
instance : UIs Tryd.prog 21 (.int .i32) := ⟨Tryd.underlying21⟩
instance : ScIs Tryd.prog 21 := ⟨_, Tryd.underlying21, rfl⟩
instance : SzIs Tryd.prog 21 1 := ⟨by kernel_rfl⟩
instance : ByIs Tryd.prog 21 4 := ⟨by kernel_rfl⟩
instance : ZcIs Tryd.prog 21 [.int .i32 0] := ⟨by kernel_rfl⟩
instance : UIs Tryd.prog 22 (.slice 43) := ⟨Tryd.underlying22⟩
instance : ScIs Tryd.prog 22 := ⟨_, Tryd.underlying22, rfl⟩
instance : SzIs Tryd.prog 22 1 := ⟨by kernel_rfl⟩
instance : ByIs Tryd.prog 22 24 := ⟨by kernel_rfl⟩
instance : ZcIs Tryd.prog 22 [.slice none 0 0] := ⟨by kernel_rfl⟩
instance : UIs Tryd.prog 23 (.slice 4) := ⟨Tryd.underlying23⟩
instance : ScIs Tryd.prog 23 := ⟨_, Tryd.underlying23, rfl⟩
instance : SzIs Tryd.prog 23 1 := ⟨by kernel_rfl⟩
instance : ByIs Tryd.prog 23 24 := ⟨by kernel_rfl⟩
instance : ZcIs Tryd.prog 23 [.slice none 0 0] := ⟨by kernel_rfl⟩
instance : UIs Tryd.prog 24 (.struct #[{ name := "Kept", type := 23, offset := 0, embedded := false, tag := "", pkgPath := "", byteOffset := 0 }, { name := "Torn", type := 3, offset := 1, embedded := false, tag := "", pkgPath := "", byteOffset := 24 }, { name := "Bytes", type := 3, offset := 2, embedded := false, tag := "", pkgPath := "", byteOffset := 32 }]) := ⟨Tryd.underlying24⟩
instance : AgIs Tryd.prog 24 := ⟨_, Tryd.underlying24, rfl⟩
instance : FldIs Tryd.prog 24 0 23 0 := ⟨_, _, Tryd.underlying24, rfl, rfl, rfl⟩
instance : FldIs Tryd.prog 24 1 3 1 := ⟨_, _, Tryd.underlying24, rfl, rfl, rfl⟩
instance : FldIs Tryd.prog 24 2 3 2 := ⟨_, _, Tryd.underlying24, rfl, rfl, rfl⟩
instance : SzIs Tryd.prog 24 3 := ⟨by kernel_rfl⟩
instance : ByIs Tryd.prog 24 40 := ⟨by kernel_rfl⟩
instance : BuIs Tryd.prog 24 [.slice none 0 0, .int .i64 0, .int .i64 0] [(0, 1), (1, 1), (2, 1)] := ⟨fun _ => by kernel_rfl⟩
instance : ZcIs Tryd.prog 24 [.slice none 0 0, .int .i64 0, .int .i64 0] := ⟨by kernel_rfl⟩
instance : UIs Tryd.prog 25 (.struct #[{ name := "Kept", type := 23, offset := 0, embedded := false, tag := "", pkgPath := "", byteOffset := 0 }, { name := "Torn", type := 3, offset := 1, embedded := false, tag := "", pkgPath := "", byteOffset := 24 }, { name := "Bytes", type := 3, offset := 2, embedded := false, tag := "", pkgPath := "", byteOffset := 32 }]) := ⟨Tryd.underlying25⟩
instance : AgIs Tryd.prog 25 := ⟨_, Tryd.underlying25, rfl⟩
instance : FldIs Tryd.prog 25 0 23 0 := ⟨_, _, Tryd.underlying25, rfl, rfl, rfl⟩
instance : FldIs Tryd.prog 25 1 3 1 := ⟨_, _, Tryd.underlying25, rfl, rfl, rfl⟩
instance : FldIs Tryd.prog 25 2 3 2 := ⟨_, _, Tryd.underlying25, rfl, rfl, rfl⟩
instance : SzIs Tryd.prog 25 3 := ⟨by kernel_rfl⟩
instance : ByIs Tryd.prog 25 40 := ⟨by kernel_rfl⟩
instance : BuIs Tryd.prog 25 [.slice none 0 0, .int .i64 0, .int .i64 0] [(0, 1), (1, 1), (2, 1)] := ⟨fun _ => by kernel_rfl⟩
instance : ZcIs Tryd.prog 25 [.slice none 0 0, .int .i64 0, .int .i64 0] := ⟨by kernel_rfl⟩
instance : UIs Tryd.prog 26 (.func #[] #[4] false) := ⟨Tryd.underlying26⟩
instance : ScIs Tryd.prog 26 := ⟨_, Tryd.underlying26, rfl⟩
instance : SzIs Tryd.prog 26 1 := ⟨by kernel_rfl⟩
instance : ByIs Tryd.prog 26 8 := ⟨by kernel_rfl⟩
instance : ZcIs Tryd.prog 26 [.nilFunc] := ⟨by kernel_rfl⟩
instance : UIs Tryd.prog 27 (.pointer 134) := ⟨Tryd.underlying27⟩
instance : ScIs Tryd.prog 27 := ⟨_, Tryd.underlying27, rfl⟩
instance : SzIs Tryd.prog 27 1 := ⟨by kernel_rfl⟩
instance : ByIs Tryd.prog 27 8 := ⟨by kernel_rfl⟩
instance : ZcIs Tryd.prog 27 [.pointer none] := ⟨by kernel_rfl⟩
instance : UIs Tryd.prog 29 (.func #[3, 22] #[27, 3] false) := ⟨Tryd.underlying29⟩
instance : ScIs Tryd.prog 29 := ⟨_, Tryd.underlying29, rfl⟩
instance : SzIs Tryd.prog 29 1 := ⟨by kernel_rfl⟩
instance : ByIs Tryd.prog 29 8 := ⟨by kernel_rfl⟩
instance : ZcIs Tryd.prog 29 [.nilFunc] := ⟨by kernel_rfl⟩
instance : UIs Tryd.prog 30 (.interface #[("Error", 36)]) := ⟨Tryd.underlying30⟩
instance : ScIs Tryd.prog 30 := ⟨_, Tryd.underlying30, rfl⟩
instance : SzIs Tryd.prog 30 1 := ⟨by kernel_rfl⟩
instance : ByIs Tryd.prog 30 16 := ⟨by kernel_rfl⟩
instance : ZcIs Tryd.prog 30 [.nilIface] := ⟨by kernel_rfl⟩
instance : UIs Tryd.prog 31 (.interface #[("Error", 36)]) := ⟨Tryd.underlying31⟩
instance : ScIs Tryd.prog 31 := ⟨_, Tryd.underlying31, rfl⟩
instance : SzIs Tryd.prog 31 1 := ⟨by kernel_rfl⟩
instance : ByIs Tryd.prog 31 16 := ⟨by kernel_rfl⟩
instance : ZcIs Tryd.prog 31 [.nilIface] := ⟨by kernel_rfl⟩
instance : UIs Tryd.prog 32 (.func #[] #[31] false) := ⟨Tryd.underlying32⟩
instance : ScIs Tryd.prog 32 := ⟨_, Tryd.underlying32, rfl⟩
instance : SzIs Tryd.prog 32 1 := ⟨by kernel_rfl⟩
instance : ByIs Tryd.prog 32 8 := ⟨by kernel_rfl⟩
instance : ZcIs Tryd.prog 32 [.nilFunc] := ⟨by kernel_rfl⟩
instance : UIs Tryd.prog 33 (.func #[] #[3] false) := ⟨Tryd.underlying33⟩
instance : ScIs Tryd.prog 33 := ⟨_, Tryd.underlying33, rfl⟩
instance : SzIs Tryd.prog 33 1 := ⟨by kernel_rfl⟩
instance : ByIs Tryd.prog 33 8 := ⟨by kernel_rfl⟩
instance : ZcIs Tryd.prog 33 [.nilFunc] := ⟨by kernel_rfl⟩
instance : UIs Tryd.prog 35 (.func #[3] #[9, 31] false) := ⟨Tryd.underlying35⟩
instance : ScIs Tryd.prog 35 := ⟨_, Tryd.underlying35, rfl⟩
instance : SzIs Tryd.prog 35 1 := ⟨by kernel_rfl⟩
instance : ByIs Tryd.prog 35 8 := ⟨by kernel_rfl⟩
instance : ZcIs Tryd.prog 35 [.nilFunc] := ⟨by kernel_rfl⟩
instance : UIs Tryd.prog 36 (.func #[] #[9] false) := ⟨Tryd.underlying36⟩
instance : ScIs Tryd.prog 36 := ⟨_, Tryd.underlying36, rfl⟩
instance : SzIs Tryd.prog 36 1 := ⟨by kernel_rfl⟩
instance : ByIs Tryd.prog 36 8 := ⟨by kernel_rfl⟩
instance : ZcIs Tryd.prog 36 [.nilFunc] := ⟨by kernel_rfl⟩
instance : UIs Tryd.prog 38 (.func #[25] #[25, 23] false) := ⟨Tryd.underlying38⟩
instance : ScIs Tryd.prog 38 := ⟨_, Tryd.underlying38, rfl⟩
instance : SzIs Tryd.prog 38 1 := ⟨by kernel_rfl⟩
instance : ByIs Tryd.prog 38 8 := ⟨by kernel_rfl⟩
instance : ZcIs Tryd.prog 38 [.nilFunc] := ⟨by kernel_rfl⟩
instance : UIs Tryd.prog 39 (.func #[25] #[] false) := ⟨Tryd.underlying39⟩
instance : ScIs Tryd.prog 39 := ⟨_, Tryd.underlying39, rfl⟩
instance : SzIs Tryd.prog 39 1 := ⟨by kernel_rfl⟩
instance : ByIs Tryd.prog 39 8 := ⟨by kernel_rfl⟩
instance : ZcIs Tryd.prog 39 [.nilFunc] := ⟨by kernel_rfl⟩
instance : UIs Tryd.prog 40 (.func #[3, 22, 25] #[4] false) := ⟨Tryd.underlying40⟩
instance : ScIs Tryd.prog 40 := ⟨_, Tryd.underlying40, rfl⟩
instance : SzIs Tryd.prog 40 1 := ⟨by kernel_rfl⟩
instance : ByIs Tryd.prog 40 8 := ⟨by kernel_rfl⟩
instance : ZcIs Tryd.prog 40 [.nilFunc] := ⟨by kernel_rfl⟩
instance : UIs Tryd.prog 41 (.slice 47) := ⟨Tryd.underlying41⟩
instance : ScIs Tryd.prog 41 := ⟨_, Tryd.underlying41, rfl⟩
instance : SzIs Tryd.prog 41 1 := ⟨by kernel_rfl⟩
instance : ByIs Tryd.prog 41 24 := ⟨by kernel_rfl⟩
instance : ZcIs Tryd.prog 41 [.slice none 0 0] := ⟨by kernel_rfl⟩
instance : UIs Tryd.prog 42 (.struct #[{ name := "Kind", type := 3, offset := 0, embedded := false, tag := "", pkgPath := "", byteOffset := 0 }, { name := "I", type := 3, offset := 1, embedded := false, tag := "", pkgPath := "", byteOffset := 8 }, { name := "S", type := 9, offset := 2, embedded := false, tag := "", pkgPath := "", byteOffset := 16 }, { name := "Fill", type := 5, offset := 3, embedded := false, tag := "", pkgPath := "", byteOffset := 32 }, { name := "F", type := 25, offset := 4, embedded := false, tag := "", pkgPath := "", byteOffset := 40 }]) := ⟨Tryd.underlying42⟩
instance : AgIs Tryd.prog 42 := ⟨_, Tryd.underlying42, rfl⟩
instance : FldIs Tryd.prog 42 0 3 0 := ⟨_, _, Tryd.underlying42, rfl, rfl, rfl⟩
instance : FldIs Tryd.prog 42 1 3 1 := ⟨_, _, Tryd.underlying42, rfl, rfl, rfl⟩
instance : FldIs Tryd.prog 42 2 9 2 := ⟨_, _, Tryd.underlying42, rfl, rfl, rfl⟩
instance : FldIs Tryd.prog 42 3 5 3 := ⟨_, _, Tryd.underlying42, rfl, rfl, rfl⟩
instance : FldIs Tryd.prog 42 4 25 4 := ⟨_, _, Tryd.underlying42, rfl, rfl, rfl⟩
instance : SzIs Tryd.prog 42 7 := ⟨by kernel_rfl⟩
instance : ByIs Tryd.prog 42 80 := ⟨by kernel_rfl⟩
instance : BuIs Tryd.prog 42 [.int .i64 0, .int .i64 0, strV [], .int .u8 0, .slice none 0 0, .int .i64 0, .int .i64 0] [(0, 1), (1, 1), (2, 1), (3, 1), (4, 3)] := ⟨fun _ => by kernel_rfl⟩
instance : ZcIs Tryd.prog 42 [.int .i64 0, .int .i64 0, strV [], .int .u8 0, .slice none 0 0, .int .i64 0, .int .i64 0] := ⟨by kernel_rfl⟩
instance : UIs Tryd.prog 43 (.struct #[{ name := "Kind", type := 3, offset := 0, embedded := false, tag := "", pkgPath := "", byteOffset := 0 }, { name := "I", type := 3, offset := 1, embedded := false, tag := "", pkgPath := "", byteOffset := 8 }, { name := "S", type := 9, offset := 2, embedded := false, tag := "", pkgPath := "", byteOffset := 16 }, { name := "Fill", type := 5, offset := 3, embedded := false, tag := "", pkgPath := "", byteOffset := 32 }, { name := "F", type := 25, offset := 4, embedded := false, tag := "", pkgPath := "", byteOffset := 40 }]) := ⟨Tryd.underlying43⟩
instance : AgIs Tryd.prog 43 := ⟨_, Tryd.underlying43, rfl⟩
instance : FldIs Tryd.prog 43 0 3 0 := ⟨_, _, Tryd.underlying43, rfl, rfl, rfl⟩
instance : FldIs Tryd.prog 43 1 3 1 := ⟨_, _, Tryd.underlying43, rfl, rfl, rfl⟩
instance : FldIs Tryd.prog 43 2 9 2 := ⟨_, _, Tryd.underlying43, rfl, rfl, rfl⟩
instance : FldIs Tryd.prog 43 3 5 3 := ⟨_, _, Tryd.underlying43, rfl, rfl, rfl⟩
instance : FldIs Tryd.prog 43 4 25 4 := ⟨_, _, Tryd.underlying43, rfl, rfl, rfl⟩
instance : SzIs Tryd.prog 43 7 := ⟨by kernel_rfl⟩
instance : ByIs Tryd.prog 43 80 := ⟨by kernel_rfl⟩
instance : BuIs Tryd.prog 43 [.int .i64 0, .int .i64 0, strV [], .int .u8 0, .slice none 0 0, .int .i64 0, .int .i64 0] [(0, 1), (1, 1), (2, 1), (3, 1), (4, 3)] := ⟨fun _ => by kernel_rfl⟩
instance : ZcIs Tryd.prog 43 [.int .i64 0, .int .i64 0, strV [], .int .u8 0, .slice none 0 0, .int .i64 0, .int .i64 0] := ⟨by kernel_rfl⟩
instance : UIs Tryd.prog 44 (.int .u64) := ⟨Tryd.underlying44⟩
instance : ScIs Tryd.prog 44 := ⟨_, Tryd.underlying44, rfl⟩
instance : SzIs Tryd.prog 44 1 := ⟨by kernel_rfl⟩
instance : ByIs Tryd.prog 44 8 := ⟨by kernel_rfl⟩
instance : ZcIs Tryd.prog 44 [.int .u64 0] := ⟨by kernel_rfl⟩
instance : UIs Tryd.prog 45 (.func #[43] #[9] false) := ⟨Tryd.underlying45⟩
instance : ScIs Tryd.prog 45 := ⟨_, Tryd.underlying45, rfl⟩
instance : SzIs Tryd.prog 45 1 := ⟨by kernel_rfl⟩
instance : ByIs Tryd.prog 45 8 := ⟨by kernel_rfl⟩
instance : ZcIs Tryd.prog 45 [.nilFunc] := ⟨by kernel_rfl⟩
instance : UIs Tryd.prog 46 (.func #[3, 9] #[31] false) := ⟨Tryd.underlying46⟩
instance : ScIs Tryd.prog 46 := ⟨_, Tryd.underlying46, rfl⟩
instance : SzIs Tryd.prog 46 1 := ⟨by kernel_rfl⟩
instance : ByIs Tryd.prog 46 8 := ⟨by kernel_rfl⟩
instance : ZcIs Tryd.prog 46 [.nilFunc] := ⟨by kernel_rfl⟩
instance : UIs Tryd.prog 47 (.slice 9) := ⟨Tryd.underlying47⟩
instance : ScIs Tryd.prog 47 := ⟨_, Tryd.underlying47, rfl⟩
instance : SzIs Tryd.prog 47 1 := ⟨by kernel_rfl⟩
instance : ByIs Tryd.prog 47 24 := ⟨by kernel_rfl⟩
instance : ZcIs Tryd.prog 47 [.slice none 0 0] := ⟨by kernel_rfl⟩
instance : UIs Tryd.prog 48 (.func #[3, 22, 22, 25] #[4] false) := ⟨Tryd.underlying48⟩
instance : ScIs Tryd.prog 48 := ⟨_, Tryd.underlying48, rfl⟩
instance : SzIs Tryd.prog 48 1 := ⟨by kernel_rfl⟩
instance : ByIs Tryd.prog 48 8 := ⟨by kernel_rfl⟩
instance : ZcIs Tryd.prog 48 [.nilFunc] := ⟨by kernel_rfl⟩
instance : UIs Tryd.prog 50 (.func #[3] #[27, 31] false) := ⟨Tryd.underlying50⟩
instance : ScIs Tryd.prog 50 := ⟨_, Tryd.underlying50, rfl⟩
instance : SzIs Tryd.prog 50 1 := ⟨by kernel_rfl⟩
instance : ByIs Tryd.prog 50 8 := ⟨by kernel_rfl⟩
instance : ZcIs Tryd.prog 50 [.nilFunc] := ⟨by kernel_rfl⟩
instance : UIs Tryd.prog 51 (.pointer 97) := ⟨Tryd.underlying51⟩
instance : ScIs Tryd.prog 51 := ⟨_, Tryd.underlying51, rfl⟩
instance : SzIs Tryd.prog 51 1 := ⟨by kernel_rfl⟩
instance : ByIs Tryd.prog 51 8 := ⟨by kernel_rfl⟩
instance : ZcIs Tryd.prog 51 [.pointer none] := ⟨by kernel_rfl⟩
instance : UIs Tryd.prog 53 (.func #[3] #[51, 3] false) := ⟨Tryd.underlying53⟩
instance : ScIs Tryd.prog 53 := ⟨_, Tryd.underlying53, rfl⟩
instance : SzIs Tryd.prog 53 1 := ⟨by kernel_rfl⟩
instance : ByIs Tryd.prog 53 8 := ⟨by kernel_rfl⟩
instance : ZcIs Tryd.prog 53 [.nilFunc] := ⟨by kernel_rfl⟩
instance : UIs Tryd.prog 54 (.func #[31] #[3] false) := ⟨Tryd.underlying54⟩
instance : ScIs Tryd.prog 54 := ⟨_, Tryd.underlying54, rfl⟩
instance : SzIs Tryd.prog 54 1 := ⟨by kernel_rfl⟩
instance : ByIs Tryd.prog 54 8 := ⟨by kernel_rfl⟩
instance : ZcIs Tryd.prog 54 [.nilFunc] := ⟨by kernel_rfl⟩
instance : UIs Tryd.prog 55 (.func #[27, 51, 22] #[4] false) := ⟨Tryd.underlying55⟩
instance : ScIs Tryd.prog 55 := ⟨_, Tryd.underlying55, rfl⟩
instance : SzIs Tryd.prog 55 1 := ⟨by kernel_rfl⟩
instance : ByIs Tryd.prog 55 8 := ⟨by kernel_rfl⟩
instance : ZcIs Tryd.prog 55 [.nilFunc] := ⟨by kernel_rfl⟩
instance : UIs Tryd.prog 56 (.func #[3, 22] #[4] false) := ⟨Tryd.underlying56⟩
instance : ScIs Tryd.prog 56 := ⟨_, Tryd.underlying56, rfl⟩
instance : SzIs Tryd.prog 56 1 := ⟨by kernel_rfl⟩
instance : ByIs Tryd.prog 56 8 := ⟨by kernel_rfl⟩
instance : ZcIs Tryd.prog 56 [.nilFunc] := ⟨by kernel_rfl⟩
instance : UIs Tryd.prog 57 (.func #[3] #[] false) := ⟨Tryd.underlying57⟩
instance : ScIs Tryd.prog 57 := ⟨_, Tryd.underlying57, rfl⟩
instance : SzIs Tryd.prog 57 1 := ⟨by kernel_rfl⟩
instance : ByIs Tryd.prog 57 8 := ⟨by kernel_rfl⟩
instance : ZcIs Tryd.prog 57 [.nilFunc] := ⟨by kernel_rfl⟩
instance : UIs Tryd.prog 59 (.func #[] #[3, 3] false) := ⟨Tryd.underlying59⟩
instance : ScIs Tryd.prog 59 := ⟨_, Tryd.underlying59, rfl⟩
instance : SzIs Tryd.prog 59 1 := ⟨by kernel_rfl⟩
instance : ByIs Tryd.prog 59 8 := ⟨by kernel_rfl⟩
instance : ZcIs Tryd.prog 59 [.nilFunc] := ⟨by kernel_rfl⟩
instance : UIs Tryd.prog 60 (.func #[9] #[27, 31] false) := ⟨Tryd.underlying60⟩
instance : ScIs Tryd.prog 60 := ⟨_, Tryd.underlying60, rfl⟩
instance : SzIs Tryd.prog 60 1 := ⟨by kernel_rfl⟩
instance : ByIs Tryd.prog 60 8 := ⟨by kernel_rfl⟩
instance : ZcIs Tryd.prog 60 [.nilFunc] := ⟨by kernel_rfl⟩
instance : UIs Tryd.prog 61 (.func #[9] #[51, 3] false) := ⟨Tryd.underlying61⟩
instance : ScIs Tryd.prog 61 := ⟨_, Tryd.underlying61, rfl⟩
instance : SzIs Tryd.prog 61 1 := ⟨by kernel_rfl⟩
instance : ByIs Tryd.prog 61 8 := ⟨by kernel_rfl⟩
instance : ZcIs Tryd.prog 61 [.nilFunc] := ⟨by kernel_rfl⟩
instance : UIs Tryd.prog 62 (.func #[9, 22] #[4] false) := ⟨Tryd.underlying62⟩
instance : ScIs Tryd.prog 62 := ⟨_, Tryd.underlying62, rfl⟩
instance : SzIs Tryd.prog 62 1 := ⟨by kernel_rfl⟩
instance : ByIs Tryd.prog 62 8 := ⟨by kernel_rfl⟩
instance : ZcIs Tryd.prog 62 [.nilFunc] := ⟨by kernel_rfl⟩
instance : UIs Tryd.prog 63 (.array 2 9) := ⟨Tryd.underlying63⟩
instance : AgIs Tryd.prog 63 := ⟨_, Tryd.underlying63, rfl⟩
instance : SzIs Tryd.prog 63 2 := ⟨by kernel_rfl⟩
instance : ByIs Tryd.prog 63 32 := ⟨by kernel_rfl⟩
instance : ZcIs Tryd.prog 63 [strV [], strV []] := ⟨by kernel_rfl⟩
instance : UIs Tryd.prog 64 (.array 2 3) := ⟨Tryd.underlying64⟩
instance : AgIs Tryd.prog 64 := ⟨_, Tryd.underlying64, rfl⟩
instance : SzIs Tryd.prog 64 2 := ⟨by kernel_rfl⟩
instance : ByIs Tryd.prog 64 16 := ⟨by kernel_rfl⟩
instance : ZcIs Tryd.prog 64 [.int .i64 0, .int .i64 0] := ⟨by kernel_rfl⟩
instance : UIs Tryd.prog 65 (.func #[27, 3, 3, 9] #[31] false) := ⟨Tryd.underlying65⟩
instance : ScIs Tryd.prog 65 := ⟨_, Tryd.underlying65, rfl⟩
instance : SzIs Tryd.prog 65 1 := ⟨by kernel_rfl⟩
instance : ByIs Tryd.prog 65 8 := ⟨by kernel_rfl⟩
instance : ZcIs Tryd.prog 65 [.nilFunc] := ⟨by kernel_rfl⟩
instance : UIs Tryd.prog 67 (.func #[27, 3] #[9, 3, 31] false) := ⟨Tryd.underlying67⟩
instance : ScIs Tryd.prog 67 := ⟨_, Tryd.underlying67, rfl⟩
instance : SzIs Tryd.prog 67 1 := ⟨by kernel_rfl⟩
instance : ByIs Tryd.prog 67 8 := ⟨by kernel_rfl⟩
instance : ZcIs Tryd.prog 67 [.nilFunc] := ⟨by kernel_rfl⟩
instance : UIs Tryd.prog 68 (.func #[47, 23] #[4] false) := ⟨Tryd.underlying68⟩
instance : ScIs Tryd.prog 68 := ⟨_, Tryd.underlying68, rfl⟩
instance : SzIs Tryd.prog 68 1 := ⟨by kernel_rfl⟩
instance : ByIs Tryd.prog 68 8 := ⟨by kernel_rfl⟩
instance : ZcIs Tryd.prog 68 [.nilFunc] := ⟨by kernel_rfl⟩
instance : UIs Tryd.prog 69 (.slice 71) := ⟨Tryd.underlying69⟩
instance : ScIs Tryd.prog 69 := ⟨_, Tryd.underlying69, rfl⟩
instance : SzIs Tryd.prog 69 1 := ⟨by kernel_rfl⟩
instance : ByIs Tryd.prog 69 24 := ⟨by kernel_rfl⟩
instance : ZcIs Tryd.prog 69 [.slice none 0 0] := ⟨by kernel_rfl⟩
instance : UIs Tryd.prog 70 (.struct #[{ name := "Value", type := 9, offset := 0, embedded := false, tag := "", pkgPath := "", byteOffset := 0 }, { name := "Arm", type := 3, offset := 1, embedded := false, tag := "", pkgPath := "", byteOffset := 16 }, { name := "Crash", type := 4, offset := 2, embedded := false, tag := "", pkgPath := "", byteOffset := 24 }, { name := "Fate", type := 25, offset := 3, embedded := false, tag := "", pkgPath := "", byteOffset := 32 }]) := ⟨Tryd.underlying70⟩
instance : AgIs Tryd.prog 70 := ⟨_, Tryd.underlying70, rfl⟩
instance : FldIs Tryd.prog 70 0 9 0 := ⟨_, _, Tryd.underlying70, rfl, rfl, rfl⟩
instance : FldIs Tryd.prog 70 1 3 1 := ⟨_, _, Tryd.underlying70, rfl, rfl, rfl⟩
instance : FldIs Tryd.prog 70 2 4 2 := ⟨_, _, Tryd.underlying70, rfl, rfl, rfl⟩
instance : FldIs Tryd.prog 70 3 25 3 := ⟨_, _, Tryd.underlying70, rfl, rfl, rfl⟩
instance : SzIs Tryd.prog 70 6 := ⟨by kernel_rfl⟩
instance : ByIs Tryd.prog 70 72 := ⟨by kernel_rfl⟩
instance : BuIs Tryd.prog 70 [strV [], .int .i64 0, .bool false, .slice none 0 0, .int .i64 0, .int .i64 0] [(0, 1), (1, 1), (2, 1), (3, 3)] := ⟨fun _ => by kernel_rfl⟩
instance : ZcIs Tryd.prog 70 [strV [], .int .i64 0, .bool false, .slice none 0 0, .int .i64 0, .int .i64 0] := ⟨by kernel_rfl⟩
instance : UIs Tryd.prog 71 (.struct #[{ name := "Value", type := 9, offset := 0, embedded := false, tag := "", pkgPath := "", byteOffset := 0 }, { name := "Arm", type := 3, offset := 1, embedded := false, tag := "", pkgPath := "", byteOffset := 16 }, { name := "Crash", type := 4, offset := 2, embedded := false, tag := "", pkgPath := "", byteOffset := 24 }, { name := "Fate", type := 25, offset := 3, embedded := false, tag := "", pkgPath := "", byteOffset := 32 }]) := ⟨Tryd.underlying71⟩
instance : AgIs Tryd.prog 71 := ⟨_, Tryd.underlying71, rfl⟩
instance : FldIs Tryd.prog 71 0 9 0 := ⟨_, _, Tryd.underlying71, rfl, rfl, rfl⟩
instance : FldIs Tryd.prog 71 1 3 1 := ⟨_, _, Tryd.underlying71, rfl, rfl, rfl⟩
instance : FldIs Tryd.prog 71 2 4 2 := ⟨_, _, Tryd.underlying71, rfl, rfl, rfl⟩
instance : FldIs Tryd.prog 71 3 25 3 := ⟨_, _, Tryd.underlying71, rfl, rfl, rfl⟩
instance : SzIs Tryd.prog 71 6 := ⟨by kernel_rfl⟩
instance : ByIs Tryd.prog 71 72 := ⟨by kernel_rfl⟩
instance : BuIs Tryd.prog 71 [strV [], .int .i64 0, .bool false, .slice none 0 0, .int .i64 0, .int .i64 0] [(0, 1), (1, 1), (2, 1), (3, 3)] := ⟨fun _ => by kernel_rfl⟩
instance : ZcIs Tryd.prog 71 [strV [], .int .i64 0, .bool false, .slice none 0 0, .int .i64 0, .int .i64 0] := ⟨by kernel_rfl⟩
instance : UIs Tryd.prog 72 (.func #[69] #[4] false) := ⟨Tryd.underlying72⟩
instance : ScIs Tryd.prog 72 := ⟨_, Tryd.underlying72, rfl⟩
instance : SzIs Tryd.prog 72 1 := ⟨by kernel_rfl⟩
instance : ByIs Tryd.prog 72 8 := ⟨by kernel_rfl⟩
instance : ZcIs Tryd.prog 72 [.nilFunc] := ⟨by kernel_rfl⟩
instance : UIs Tryd.prog 73 (.func #[9] #[4] false) := ⟨Tryd.underlying73⟩
instance : ScIs Tryd.prog 73 := ⟨_, Tryd.underlying73, rfl⟩
instance : SzIs Tryd.prog 73 1 := ⟨by kernel_rfl⟩
instance : ByIs Tryd.prog 73 8 := ⟨by kernel_rfl⟩
instance : ZcIs Tryd.prog 73 [.nilFunc] := ⟨by kernel_rfl⟩
instance : UIs Tryd.prog 75 (.func #[9, 3] #[9, 3, 3] false) := ⟨Tryd.underlying75⟩
instance : ScIs Tryd.prog 75 := ⟨_, Tryd.underlying75, rfl⟩
instance : SzIs Tryd.prog 75 1 := ⟨by kernel_rfl⟩
instance : ByIs Tryd.prog 75 8 := ⟨by kernel_rfl⟩
instance : ZcIs Tryd.prog 75 [.nilFunc] := ⟨by kernel_rfl⟩
instance : UIs Tryd.prog 76 (.func #[9, 3] #[4] false) := ⟨Tryd.underlying76⟩
instance : ScIs Tryd.prog 76 := ⟨_, Tryd.underlying76, rfl⟩
instance : SzIs Tryd.prog 76 1 := ⟨by kernel_rfl⟩
instance : ByIs Tryd.prog 76 8 := ⟨by kernel_rfl⟩
instance : ZcIs Tryd.prog 76 [.nilFunc] := ⟨by kernel_rfl⟩
instance : UIs Tryd.prog 77 (.func #[3] #[3] false) := ⟨Tryd.underlying77⟩
instance : ScIs Tryd.prog 77 := ⟨_, Tryd.underlying77, rfl⟩
instance : SzIs Tryd.prog 77 1 := ⟨by kernel_rfl⟩
instance : ByIs Tryd.prog 77 8 := ⟨by kernel_rfl⟩
instance : ZcIs Tryd.prog 77 [.nilFunc] := ⟨by kernel_rfl⟩
instance : UIs Tryd.prog 78 (.func #[3] #[4] false) := ⟨Tryd.underlying78⟩
instance : ScIs Tryd.prog 78 := ⟨_, Tryd.underlying78, rfl⟩
instance : SzIs Tryd.prog 78 1 := ⟨by kernel_rfl⟩
instance : ByIs Tryd.prog 78 8 := ⟨by kernel_rfl⟩
instance : ZcIs Tryd.prog 78 [.nilFunc] := ⟨by kernel_rfl⟩
instance : UIs Tryd.prog 79 (.int .u64) := ⟨Tryd.underlying79⟩
instance : ScIs Tryd.prog 79 := ⟨_, Tryd.underlying79, rfl⟩
instance : SzIs Tryd.prog 79 1 := ⟨by kernel_rfl⟩
instance : ByIs Tryd.prog 79 8 := ⟨by kernel_rfl⟩
instance : ZcIs Tryd.prog 79 [.int .u64 0] := ⟨by kernel_rfl⟩
instance : UIs Tryd.prog 80 (.struct #[{ name := "Kind", type := 3, offset := 0, embedded := false, tag := "", pkgPath := "", byteOffset := 0 }, { name := "At", type := 3, offset := 1, embedded := false, tag := "", pkgPath := "", byteOffset := 8 }, { name := "N", type := 3, offset := 2, embedded := false, tag := "", pkgPath := "", byteOffset := 16 }, { name := "Stamp", type := 79, offset := 3, embedded := false, tag := "", pkgPath := "", byteOffset := 24 }, { name := "Bytes", type := 3, offset := 4, embedded := false, tag := "", pkgPath := "", byteOffset := 32 }, { name := "Seed", type := 79, offset := 5, embedded := false, tag := "", pkgPath := "", byteOffset := 40 }, { name := "F", type := 25, offset := 6, embedded := false, tag := "", pkgPath := "", byteOffset := 48 }]) := ⟨Tryd.underlying80⟩
instance : AgIs Tryd.prog 80 := ⟨_, Tryd.underlying80, rfl⟩
instance : FldIs Tryd.prog 80 0 3 0 := ⟨_, _, Tryd.underlying80, rfl, rfl, rfl⟩
instance : FldIs Tryd.prog 80 1 3 1 := ⟨_, _, Tryd.underlying80, rfl, rfl, rfl⟩
instance : FldIs Tryd.prog 80 2 3 2 := ⟨_, _, Tryd.underlying80, rfl, rfl, rfl⟩
instance : FldIs Tryd.prog 80 3 79 3 := ⟨_, _, Tryd.underlying80, rfl, rfl, rfl⟩
instance : FldIs Tryd.prog 80 4 3 4 := ⟨_, _, Tryd.underlying80, rfl, rfl, rfl⟩
instance : FldIs Tryd.prog 80 5 79 5 := ⟨_, _, Tryd.underlying80, rfl, rfl, rfl⟩
instance : FldIs Tryd.prog 80 6 25 6 := ⟨_, _, Tryd.underlying80, rfl, rfl, rfl⟩
instance : SzIs Tryd.prog 80 9 := ⟨by kernel_rfl⟩
instance : ByIs Tryd.prog 80 88 := ⟨by kernel_rfl⟩
instance : BuIs Tryd.prog 80 [.int .i64 0, .int .i64 0, .int .i64 0, .int .u64 0, .int .i64 0, .int .u64 0, .slice none 0 0, .int .i64 0, .int .i64 0] [(0, 1), (1, 1), (2, 1), (3, 1), (4, 1), (5, 1), (6, 3)] := ⟨fun _ => by kernel_rfl⟩
instance : ZcIs Tryd.prog 80 [.int .i64 0, .int .i64 0, .int .i64 0, .int .u64 0, .int .i64 0, .int .u64 0, .slice none 0 0, .int .i64 0, .int .i64 0] := ⟨by kernel_rfl⟩
instance : UIs Tryd.prog 81 (.struct #[{ name := "Kind", type := 3, offset := 0, embedded := false, tag := "", pkgPath := "", byteOffset := 0 }, { name := "At", type := 3, offset := 1, embedded := false, tag := "", pkgPath := "", byteOffset := 8 }, { name := "N", type := 3, offset := 2, embedded := false, tag := "", pkgPath := "", byteOffset := 16 }, { name := "Stamp", type := 79, offset := 3, embedded := false, tag := "", pkgPath := "", byteOffset := 24 }, { name := "Bytes", type := 3, offset := 4, embedded := false, tag := "", pkgPath := "", byteOffset := 32 }, { name := "Seed", type := 79, offset := 5, embedded := false, tag := "", pkgPath := "", byteOffset := 40 }, { name := "F", type := 25, offset := 6, embedded := false, tag := "", pkgPath := "", byteOffset := 48 }]) := ⟨Tryd.underlying81⟩
instance : AgIs Tryd.prog 81 := ⟨_, Tryd.underlying81, rfl⟩
instance : FldIs Tryd.prog 81 0 3 0 := ⟨_, _, Tryd.underlying81, rfl, rfl, rfl⟩
instance : FldIs Tryd.prog 81 1 3 1 := ⟨_, _, Tryd.underlying81, rfl, rfl, rfl⟩
instance : FldIs Tryd.prog 81 2 3 2 := ⟨_, _, Tryd.underlying81, rfl, rfl, rfl⟩
instance : FldIs Tryd.prog 81 3 79 3 := ⟨_, _, Tryd.underlying81, rfl, rfl, rfl⟩
instance : FldIs Tryd.prog 81 4 3 4 := ⟨_, _, Tryd.underlying81, rfl, rfl, rfl⟩
instance : FldIs Tryd.prog 81 5 79 5 := ⟨_, _, Tryd.underlying81, rfl, rfl, rfl⟩
instance : FldIs Tryd.prog 81 6 25 6 := ⟨_, _, Tryd.underlying81, rfl, rfl, rfl⟩
instance : SzIs Tryd.prog 81 9 := ⟨by kernel_rfl⟩
instance : ByIs Tryd.prog 81 88 := ⟨by kernel_rfl⟩
instance : BuIs Tryd.prog 81 [.int .i64 0, .int .i64 0, .int .i64 0, .int .u64 0, .int .i64 0, .int .u64 0, .slice none 0 0, .int .i64 0, .int .i64 0] [(0, 1), (1, 1), (2, 1), (3, 1), (4, 1), (5, 1), (6, 3)] := ⟨fun _ => by kernel_rfl⟩
instance : ZcIs Tryd.prog 81 [.int .i64 0, .int .i64 0, .int .i64 0, .int .u64 0, .int .i64 0, .int .u64 0, .slice none 0 0, .int .i64 0, .int .i64 0] := ⟨by kernel_rfl⟩
instance : UIs Tryd.prog 82 (.func #[79, 3] #[9] false) := ⟨Tryd.underlying82⟩
instance : ScIs Tryd.prog 82 := ⟨_, Tryd.underlying82, rfl⟩
instance : SzIs Tryd.prog 82 1 := ⟨by kernel_rfl⟩
instance : ByIs Tryd.prog 82 8 := ⟨by kernel_rfl⟩
instance : ZcIs Tryd.prog 82 [.nilFunc] := ⟨by kernel_rfl⟩
instance : UIs Tryd.prog 83 (.func #[27, 3, 3, 79, 9] #[31] false) := ⟨Tryd.underlying83⟩
instance : ScIs Tryd.prog 83 := ⟨_, Tryd.underlying83, rfl⟩
instance : SzIs Tryd.prog 83 1 := ⟨by kernel_rfl⟩
instance : ByIs Tryd.prog 83 8 := ⟨by kernel_rfl⟩
instance : ZcIs Tryd.prog 83 [.nilFunc] := ⟨by kernel_rfl⟩
instance : UIs Tryd.prog 84 (.func #[27, 3, 3, 79, 3] #[9, 31] false) := ⟨Tryd.underlying84⟩
instance : ScIs Tryd.prog 84 := ⟨_, Tryd.underlying84, rfl⟩
instance : SzIs Tryd.prog 84 1 := ⟨by kernel_rfl⟩
instance : ByIs Tryd.prog 84 8 := ⟨by kernel_rfl⟩
instance : ZcIs Tryd.prog 84 [.nilFunc] := ⟨by kernel_rfl⟩
instance : UIs Tryd.prog 85 (.func #[81] #[4] false) := ⟨Tryd.underlying85⟩
instance : ScIs Tryd.prog 85 := ⟨_, Tryd.underlying85, rfl⟩
instance : SzIs Tryd.prog 85 1 := ⟨by kernel_rfl⟩
instance : ByIs Tryd.prog 85 8 := ⟨by kernel_rfl⟩
instance : ZcIs Tryd.prog 85 [.nilFunc] := ⟨by kernel_rfl⟩
instance : UIs Tryd.prog 87 (.func #[9, 3, 3, 9] #[9, 3] false) := ⟨Tryd.underlying87⟩
instance : ScIs Tryd.prog 87 := ⟨_, Tryd.underlying87, rfl⟩
instance : SzIs Tryd.prog 87 1 := ⟨by kernel_rfl⟩
instance : ByIs Tryd.prog 87 8 := ⟨by kernel_rfl⟩
instance : ZcIs Tryd.prog 87 [.nilFunc] := ⟨by kernel_rfl⟩
instance : UIs Tryd.prog 88 (.func #[9, 3, 3, 9, 3] #[4] false) := ⟨Tryd.underlying88⟩
instance : ScIs Tryd.prog 88 := ⟨_, Tryd.underlying88, rfl⟩
instance : SzIs Tryd.prog 88 1 := ⟨by kernel_rfl⟩
instance : ByIs Tryd.prog 88 8 := ⟨by kernel_rfl⟩
instance : ZcIs Tryd.prog 88 [.nilFunc] := ⟨by kernel_rfl⟩
instance : UIs Tryd.prog 89 (.slice 91) := ⟨Tryd.underlying89⟩
instance : ScIs Tryd.prog 89 := ⟨_, Tryd.underlying89, rfl⟩
instance : SzIs Tryd.prog 89 1 := ⟨by kernel_rfl⟩
instance : ByIs Tryd.prog 89 24 := ⟨by kernel_rfl⟩
instance : ZcIs Tryd.prog 89 [.slice none 0 0] := ⟨by kernel_rfl⟩
instance : UIs Tryd.prog 90 (.struct #[{ name := "Bytes", type := 3, offset := 0, embedded := false, tag := "", pkgPath := "", byteOffset := 0 }, { name := "Seed", type := 79, offset := 1, embedded := false, tag := "", pkgPath := "", byteOffset := 8 }, { name := "Arm", type := 3, offset := 2, embedded := false, tag := "", pkgPath := "", byteOffset := 16 }, { name := "F", type := 25, offset := 3, embedded := false, tag := "", pkgPath := "", byteOffset := 24 }]) := ⟨Tryd.underlying90⟩
instance : AgIs Tryd.prog 90 := ⟨_, Tryd.underlying90, rfl⟩
instance : FldIs Tryd.prog 90 0 3 0 := ⟨_, _, Tryd.underlying90, rfl, rfl, rfl⟩
instance : FldIs Tryd.prog 90 1 79 1 := ⟨_, _, Tryd.underlying90, rfl, rfl, rfl⟩
instance : FldIs Tryd.prog 90 2 3 2 := ⟨_, _, Tryd.underlying90, rfl, rfl, rfl⟩
instance : FldIs Tryd.prog 90 3 25 3 := ⟨_, _, Tryd.underlying90, rfl, rfl, rfl⟩
instance : SzIs Tryd.prog 90 6 := ⟨by kernel_rfl⟩
instance : ByIs Tryd.prog 90 64 := ⟨by kernel_rfl⟩
instance : BuIs Tryd.prog 90 [.int .i64 0, .int .u64 0, .int .i64 0, .slice none 0 0, .int .i64 0, .int .i64 0] [(0, 1), (1, 1), (2, 1), (3, 3)] := ⟨fun _ => by kernel_rfl⟩
instance : ZcIs Tryd.prog 90 [.int .i64 0, .int .u64 0, .int .i64 0, .slice none 0 0, .int .i64 0, .int .i64 0] := ⟨by kernel_rfl⟩
instance : UIs Tryd.prog 91 (.struct #[{ name := "Bytes", type := 3, offset := 0, embedded := false, tag := "", pkgPath := "", byteOffset := 0 }, { name := "Seed", type := 79, offset := 1, embedded := false, tag := "", pkgPath := "", byteOffset := 8 }, { name := "Arm", type := 3, offset := 2, embedded := false, tag := "", pkgPath := "", byteOffset := 16 }, { name := "F", type := 25, offset := 3, embedded := false, tag := "", pkgPath := "", byteOffset := 24 }]) := ⟨Tryd.underlying91⟩
instance : AgIs Tryd.prog 91 := ⟨_, Tryd.underlying91, rfl⟩
instance : FldIs Tryd.prog 91 0 3 0 := ⟨_, _, Tryd.underlying91, rfl, rfl, rfl⟩
instance : FldIs Tryd.prog 91 1 79 1 := ⟨_, _, Tryd.underlying91, rfl, rfl, rfl⟩
instance : FldIs Tryd.prog 91 2 3 2 := ⟨_, _, Tryd.underlying91, rfl, rfl, rfl⟩
instance : FldIs Tryd.prog 91 3 25 3 := ⟨_, _, Tryd.underlying91, rfl, rfl, rfl⟩
instance : SzIs Tryd.prog 91 6 := ⟨by kernel_rfl⟩
instance : ByIs Tryd.prog 91 64 := ⟨by kernel_rfl⟩
instance : BuIs Tryd.prog 91 [.int .i64 0, .int .u64 0, .int .i64 0, .slice none 0 0, .int .i64 0, .int .i64 0] [(0, 1), (1, 1), (2, 1), (3, 3)] := ⟨fun _ => by kernel_rfl⟩
instance : ZcIs Tryd.prog 91 [.int .i64 0, .int .u64 0, .int .i64 0, .slice none 0 0, .int .i64 0, .int .i64 0] := ⟨by kernel_rfl⟩
instance : UIs Tryd.prog 92 (.func #[89] #[4] false) := ⟨Tryd.underlying92⟩
instance : ScIs Tryd.prog 92 := ⟨_, Tryd.underlying92, rfl⟩
instance : SzIs Tryd.prog 92 1 := ⟨by kernel_rfl⟩
instance : ByIs Tryd.prog 92 8 := ⟨by kernel_rfl⟩
instance : ZcIs Tryd.prog 92 [.nilFunc] := ⟨by kernel_rfl⟩
instance : UIs Tryd.prog 93 (.slice 81) := ⟨Tryd.underlying93⟩
instance : ScIs Tryd.prog 93 := ⟨_, Tryd.underlying93, rfl⟩
instance : SzIs Tryd.prog 93 1 := ⟨by kernel_rfl⟩
instance : ByIs Tryd.prog 93 24 := ⟨by kernel_rfl⟩
instance : ZcIs Tryd.prog 93 [.slice none 0 0] := ⟨by kernel_rfl⟩
instance : UIs Tryd.prog 94 (.func #[27, 51, 81] #[4] false) := ⟨Tryd.underlying94⟩
instance : ScIs Tryd.prog 94 := ⟨_, Tryd.underlying94, rfl⟩
instance : SzIs Tryd.prog 94 1 := ⟨by kernel_rfl⟩
instance : ByIs Tryd.prog 94 8 := ⟨by kernel_rfl⟩
instance : ZcIs Tryd.prog 94 [.nilFunc] := ⟨by kernel_rfl⟩
instance : UIs Tryd.prog 95 (.slice 192) := ⟨Tryd.underlying95⟩
instance : ScIs Tryd.prog 95 := ⟨_, Tryd.underlying95, rfl⟩
instance : SzIs Tryd.prog 95 1 := ⟨by kernel_rfl⟩
instance : ByIs Tryd.prog 95 24 := ⟨by kernel_rfl⟩
instance : ZcIs Tryd.prog 95 [.slice none 0 0] := ⟨by kernel_rfl⟩
instance : UIs Tryd.prog 96 (.struct #[{ name := "Sectors", type := 47, offset := 0, embedded := false, tag := "", pkgPath := "", byteOffset := 0 }, { name := "Ways", type := 95, offset := 1, embedded := false, tag := "", pkgPath := "", byteOffset := 24 }, { name := "Down", type := 4, offset := 2, embedded := false, tag := "", pkgPath := "", byteOffset := 48 }, { name := "Armed", type := 4, offset := 3, embedded := false, tag := "", pkgPath := "", byteOffset := 49 }, { name := "Count", type := 3, offset := 4, embedded := false, tag := "", pkgPath := "", byteOffset := 56 }, { name := "Writes", type := 3, offset := 5, embedded := false, tag := "", pkgPath := "", byteOffset := 64 }, { name := "Flushes", type := 3, offset := 6, embedded := false, tag := "", pkgPath := "", byteOffset := 72 }, { name := "Lives", type := 3, offset := 7, embedded := false, tag := "", pkgPath := "", byteOffset := 80 }]) := ⟨Tryd.underlying96⟩
instance : AgIs Tryd.prog 96 := ⟨_, Tryd.underlying96, rfl⟩
instance : FldIs Tryd.prog 96 0 47 0 := ⟨_, _, Tryd.underlying96, rfl, rfl, rfl⟩
instance : FldIs Tryd.prog 96 1 95 1 := ⟨_, _, Tryd.underlying96, rfl, rfl, rfl⟩
instance : FldIs Tryd.prog 96 2 4 2 := ⟨_, _, Tryd.underlying96, rfl, rfl, rfl⟩
instance : FldIs Tryd.prog 96 3 4 3 := ⟨_, _, Tryd.underlying96, rfl, rfl, rfl⟩
instance : FldIs Tryd.prog 96 4 3 4 := ⟨_, _, Tryd.underlying96, rfl, rfl, rfl⟩
instance : FldIs Tryd.prog 96 5 3 5 := ⟨_, _, Tryd.underlying96, rfl, rfl, rfl⟩
instance : FldIs Tryd.prog 96 6 3 6 := ⟨_, _, Tryd.underlying96, rfl, rfl, rfl⟩
instance : FldIs Tryd.prog 96 7 3 7 := ⟨_, _, Tryd.underlying96, rfl, rfl, rfl⟩
instance : SzIs Tryd.prog 96 8 := ⟨by kernel_rfl⟩
instance : ByIs Tryd.prog 96 88 := ⟨by kernel_rfl⟩
instance : BuIs Tryd.prog 96 [.slice none 0 0, .slice none 0 0, .bool false, .bool false, .int .i64 0, .int .i64 0, .int .i64 0, .int .i64 0] [(0, 1), (1, 1), (2, 1), (3, 1), (4, 1), (5, 1), (6, 1), (7, 1)] := ⟨fun _ => by kernel_rfl⟩
instance : ZcIs Tryd.prog 96 [.slice none 0 0, .slice none 0 0, .bool false, .bool false, .int .i64 0, .int .i64 0, .int .i64 0, .int .i64 0] := ⟨by kernel_rfl⟩
instance : UIs Tryd.prog 97 (.struct #[{ name := "Sectors", type := 47, offset := 0, embedded := false, tag := "", pkgPath := "", byteOffset := 0 }, { name := "Ways", type := 95, offset := 1, embedded := false, tag := "", pkgPath := "", byteOffset := 24 }, { name := "Down", type := 4, offset := 2, embedded := false, tag := "", pkgPath := "", byteOffset := 48 }, { name := "Armed", type := 4, offset := 3, embedded := false, tag := "", pkgPath := "", byteOffset := 49 }, { name := "Count", type := 3, offset := 4, embedded := false, tag := "", pkgPath := "", byteOffset := 56 }, { name := "Writes", type := 3, offset := 5, embedded := false, tag := "", pkgPath := "", byteOffset := 64 }, { name := "Flushes", type := 3, offset := 6, embedded := false, tag := "", pkgPath := "", byteOffset := 72 }, { name := "Lives", type := 3, offset := 7, embedded := false, tag := "", pkgPath := "", byteOffset := 80 }]) := ⟨Tryd.underlying97⟩
instance : AgIs Tryd.prog 97 := ⟨_, Tryd.underlying97, rfl⟩
instance : FldIs Tryd.prog 97 0 47 0 := ⟨_, _, Tryd.underlying97, rfl, rfl, rfl⟩
instance : FldIs Tryd.prog 97 1 95 1 := ⟨_, _, Tryd.underlying97, rfl, rfl, rfl⟩
instance : FldIs Tryd.prog 97 2 4 2 := ⟨_, _, Tryd.underlying97, rfl, rfl, rfl⟩
instance : FldIs Tryd.prog 97 3 4 3 := ⟨_, _, Tryd.underlying97, rfl, rfl, rfl⟩
instance : FldIs Tryd.prog 97 4 3 4 := ⟨_, _, Tryd.underlying97, rfl, rfl, rfl⟩
instance : FldIs Tryd.prog 97 5 3 5 := ⟨_, _, Tryd.underlying97, rfl, rfl, rfl⟩
instance : FldIs Tryd.prog 97 6 3 6 := ⟨_, _, Tryd.underlying97, rfl, rfl, rfl⟩
instance : FldIs Tryd.prog 97 7 3 7 := ⟨_, _, Tryd.underlying97, rfl, rfl, rfl⟩
instance : SzIs Tryd.prog 97 8 := ⟨by kernel_rfl⟩
instance : ByIs Tryd.prog 97 88 := ⟨by kernel_rfl⟩
instance : BuIs Tryd.prog 97 [.slice none 0 0, .slice none 0 0, .bool false, .bool false, .int .i64 0, .int .i64 0, .int .i64 0, .int .i64 0] [(0, 1), (1, 1), (2, 1), (3, 1), (4, 1), (5, 1), (6, 1), (7, 1)] := ⟨fun _ => by kernel_rfl⟩
instance : ZcIs Tryd.prog 97 [.slice none 0 0, .slice none 0 0, .bool false, .bool false, .int .i64 0, .int .i64 0, .int .i64 0, .int .i64 0] := ⟨by kernel_rfl⟩
instance : UIs Tryd.prog 98 (.func #[3, 93] #[4] false) := ⟨Tryd.underlying98⟩
instance : ScIs Tryd.prog 98 := ⟨_, Tryd.underlying98, rfl⟩
instance : SzIs Tryd.prog 98 1 := ⟨by kernel_rfl⟩
instance : ByIs Tryd.prog 98 8 := ⟨by kernel_rfl⟩
instance : ZcIs Tryd.prog 98 [.nilFunc] := ⟨by kernel_rfl⟩
instance : UIs Tryd.prog 99 (.pointer 165) := ⟨Tryd.underlying99⟩
instance : ScIs Tryd.prog 99 := ⟨_, Tryd.underlying99, rfl⟩
instance : SzIs Tryd.prog 99 1 := ⟨by kernel_rfl⟩
instance : ByIs Tryd.prog 99 8 := ⟨by kernel_rfl⟩
instance : ZcIs Tryd.prog 99 [.pointer none] := ⟨by kernel_rfl⟩
instance : UIs Tryd.prog 101 (.func #[27, 3, 3, 3] #[99, 31] false) := ⟨Tryd.underlying101⟩
instance : ScIs Tryd.prog 101 := ⟨_, Tryd.underlying101, rfl⟩
instance : SzIs Tryd.prog 101 1 := ⟨by kernel_rfl⟩
instance : ByIs Tryd.prog 101 8 := ⟨by kernel_rfl⟩
instance : ZcIs Tryd.prog 101 [.nilFunc] := ⟨by kernel_rfl⟩
instance : UIs Tryd.prog 102 (.func #[9] #[31] false) := ⟨Tryd.underlying102⟩
instance : ScIs Tryd.prog 102 := ⟨_, Tryd.underlying102, rfl⟩
instance : SzIs Tryd.prog 102 1 := ⟨by kernel_rfl⟩
instance : ByIs Tryd.prog 102 8 := ⟨by kernel_rfl⟩
instance : ZcIs Tryd.prog 102 [.nilFunc] := ⟨by kernel_rfl⟩
instance : UIs Tryd.prog 103 (.func #[3, 3] #[9] false) := ⟨Tryd.underlying103⟩
instance : ScIs Tryd.prog 103 := ⟨_, Tryd.underlying103, rfl⟩
instance : SzIs Tryd.prog 103 1 := ⟨by kernel_rfl⟩
instance : ByIs Tryd.prog 103 8 := ⟨by kernel_rfl⟩
instance : ZcIs Tryd.prog 103 [.nilFunc] := ⟨by kernel_rfl⟩
instance : UIs Tryd.prog 104 (.func #[3, 3] #[4] false) := ⟨Tryd.underlying104⟩
instance : ScIs Tryd.prog 104 := ⟨_, Tryd.underlying104, rfl⟩
instance : SzIs Tryd.prog 104 1 := ⟨by kernel_rfl⟩
instance : ByIs Tryd.prog 104 8 := ⟨by kernel_rfl⟩
instance : ZcIs Tryd.prog 104 [.nilFunc] := ⟨by kernel_rfl⟩
instance : UIs Tryd.prog 105 (.slice 3) := ⟨Tryd.underlying105⟩
instance : ScIs Tryd.prog 105 := ⟨_, Tryd.underlying105, rfl⟩
instance : SzIs Tryd.prog 105 1 := ⟨by kernel_rfl⟩
instance : ByIs Tryd.prog 105 24 := ⟨by kernel_rfl⟩
instance : ZcIs Tryd.prog 105 [.slice none 0 0] := ⟨by kernel_rfl⟩
instance : UIs Tryd.prog 107 (.func #[27, 3, 3, 3] #[47, 31] false) := ⟨Tryd.underlying107⟩
instance : ScIs Tryd.prog 107 := ⟨_, Tryd.underlying107, rfl⟩
instance : SzIs Tryd.prog 107 1 := ⟨by kernel_rfl⟩
instance : ByIs Tryd.prog 107 8 := ⟨by kernel_rfl⟩
instance : ZcIs Tryd.prog 107 [.nilFunc] := ⟨by kernel_rfl⟩
instance : UIs Tryd.prog 108 (.func #[171] #[] false) := ⟨Tryd.underlying108⟩
instance : ScIs Tryd.prog 108 := ⟨_, Tryd.underlying108, rfl⟩
instance : SzIs Tryd.prog 108 1 := ⟨by kernel_rfl⟩
instance : ByIs Tryd.prog 108 8 := ⟨by kernel_rfl⟩
instance : ZcIs Tryd.prog 108 [.nilFunc] := ⟨by kernel_rfl⟩
instance : UIs Tryd.prog 109 (.func #[171] #[] false) := ⟨Tryd.underlying109⟩
instance : ScIs Tryd.prog 109 := ⟨_, Tryd.underlying109, rfl⟩
instance : SzIs Tryd.prog 109 1 := ⟨by kernel_rfl⟩
instance : ByIs Tryd.prog 109 8 := ⟨by kernel_rfl⟩
instance : ZcIs Tryd.prog 109 [.nilFunc] := ⟨by kernel_rfl⟩
instance : UIs Tryd.prog 110 (.func #[27, 3, 3, 3] #[109] false) := ⟨Tryd.underlying110⟩
instance : ScIs Tryd.prog 110 := ⟨_, Tryd.underlying110, rfl⟩
instance : SzIs Tryd.prog 110 1 := ⟨by kernel_rfl⟩
instance : ByIs Tryd.prog 110 8 := ⟨by kernel_rfl⟩
instance : ZcIs Tryd.prog 110 [.nilFunc] := ⟨by kernel_rfl⟩
instance : UIs Tryd.prog 111 (.func #[47, 47] #[4] false) := ⟨Tryd.underlying111⟩
instance : ScIs Tryd.prog 111 := ⟨_, Tryd.underlying111, rfl⟩
instance : SzIs Tryd.prog 111 1 := ⟨by kernel_rfl⟩
instance : ByIs Tryd.prog 111 8 := ⟨by kernel_rfl⟩
instance : ZcIs Tryd.prog 111 [.nilFunc] := ⟨by kernel_rfl⟩
instance : UIs Tryd.prog 112 (.slice 5) := ⟨Tryd.underlying112⟩
instance : ScIs Tryd.prog 112 := ⟨_, Tryd.underlying112, rfl⟩
instance : SzIs Tryd.prog 112 1 := ⟨by kernel_rfl⟩
instance : ByIs Tryd.prog 112 24 := ⟨by kernel_rfl⟩
instance : ZcIs Tryd.prog 112 [.slice none 0 0] := ⟨by kernel_rfl⟩
instance : UIs Tryd.prog 113 (.func #[105, 3] #[4] false) := ⟨Tryd.underlying113⟩
instance : ScIs Tryd.prog 113 := ⟨_, Tryd.underlying113, rfl⟩
instance : SzIs Tryd.prog 113 1 := ⟨by kernel_rfl⟩
instance : ByIs Tryd.prog 113 8 := ⟨by kernel_rfl⟩
instance : ZcIs Tryd.prog 113 [.nilFunc] := ⟨by kernel_rfl⟩
instance : UIs Tryd.prog 114 (.func #[27, 51, 3, 3, 3] #[4] false) := ⟨Tryd.underlying114⟩
instance : ScIs Tryd.prog 114 := ⟨_, Tryd.underlying114, rfl⟩
instance : SzIs Tryd.prog 114 1 := ⟨by kernel_rfl⟩
instance : ByIs Tryd.prog 114 8 := ⟨by kernel_rfl⟩
instance : ZcIs Tryd.prog 114 [.nilFunc] := ⟨by kernel_rfl⟩
instance : UIs Tryd.prog 115 (.func #[9, 3, 3, 3] #[4] false) := ⟨Tryd.underlying115⟩
instance : ScIs Tryd.prog 115 := ⟨_, Tryd.underlying115, rfl⟩
instance : SzIs Tryd.prog 115 1 := ⟨by kernel_rfl⟩
instance : ByIs Tryd.prog 115 8 := ⟨by kernel_rfl⟩
instance : ZcIs Tryd.prog 115 [.nilFunc] := ⟨by kernel_rfl⟩
instance : UIs Tryd.prog 116 (.slice 118) := ⟨Tryd.underlying116⟩
instance : ScIs Tryd.prog 116 := ⟨_, Tryd.underlying116, rfl⟩
instance : SzIs Tryd.prog 116 1 := ⟨by kernel_rfl⟩
instance : ByIs Tryd.prog 116 24 := ⟨by kernel_rfl⟩
instance : ZcIs Tryd.prog 116 [.slice none 0 0] := ⟨by kernel_rfl⟩
instance : UIs Tryd.prog 117 (.struct #[{ name := "More", type := 3, offset := 0, embedded := false, tag := "", pkgPath := "", byteOffset := 0 }, { name := "Sizes", type := 105, offset := 1, embedded := false, tag := "", pkgPath := "", byteOffset := 8 }, { name := "Syncs", type := 23, offset := 2, embedded := false, tag := "", pkgPath := "", byteOffset := 32 }, { name := "Arm", type := 3, offset := 3, embedded := false, tag := "", pkgPath := "", byteOffset := 56 }, { name := "F", type := 25, offset := 4, embedded := false, tag := "", pkgPath := "", byteOffset := 64 }]) := ⟨Tryd.underlying117⟩
instance : AgIs Tryd.prog 117 := ⟨_, Tryd.underlying117, rfl⟩
instance : FldIs Tryd.prog 117 0 3 0 := ⟨_, _, Tryd.underlying117, rfl, rfl, rfl⟩
instance : FldIs Tryd.prog 117 1 105 1 := ⟨_, _, Tryd.underlying117, rfl, rfl, rfl⟩
instance : FldIs Tryd.prog 117 2 23 2 := ⟨_, _, Tryd.underlying117, rfl, rfl, rfl⟩
instance : FldIs Tryd.prog 117 3 3 3 := ⟨_, _, Tryd.underlying117, rfl, rfl, rfl⟩
instance : FldIs Tryd.prog 117 4 25 4 := ⟨_, _, Tryd.underlying117, rfl, rfl, rfl⟩
instance : SzIs Tryd.prog 117 7 := ⟨by kernel_rfl⟩
instance : ByIs Tryd.prog 117 104 := ⟨by kernel_rfl⟩
instance : BuIs Tryd.prog 117 [.int .i64 0, .slice none 0 0, .slice none 0 0, .int .i64 0, .slice none 0 0, .int .i64 0, .int .i64 0] [(0, 1), (1, 1), (2, 1), (3, 1), (4, 3)] := ⟨fun _ => by kernel_rfl⟩
instance : ZcIs Tryd.prog 117 [.int .i64 0, .slice none 0 0, .slice none 0 0, .int .i64 0, .slice none 0 0, .int .i64 0, .int .i64 0] := ⟨by kernel_rfl⟩
instance : UIs Tryd.prog 118 (.struct #[{ name := "More", type := 3, offset := 0, embedded := false, tag := "", pkgPath := "", byteOffset := 0 }, { name := "Sizes", type := 105, offset := 1, embedded := false, tag := "", pkgPath := "", byteOffset := 8 }, { name := "Syncs", type := 23, offset := 2, embedded := false, tag := "", pkgPath := "", byteOffset := 32 }, { name := "Arm", type := 3, offset := 3, embedded := false, tag := "", pkgPath := "", byteOffset := 56 }, { name := "F", type := 25, offset := 4, embedded := false, tag := "", pkgPath := "", byteOffset := 64 }]) := ⟨Tryd.underlying118⟩
instance : AgIs Tryd.prog 118 := ⟨_, Tryd.underlying118, rfl⟩
instance : FldIs Tryd.prog 118 0 3 0 := ⟨_, _, Tryd.underlying118, rfl, rfl, rfl⟩
instance : FldIs Tryd.prog 118 1 105 1 := ⟨_, _, Tryd.underlying118, rfl, rfl, rfl⟩
instance : FldIs Tryd.prog 118 2 23 2 := ⟨_, _, Tryd.underlying118, rfl, rfl, rfl⟩
instance : FldIs Tryd.prog 118 3 3 3 := ⟨_, _, Tryd.underlying118, rfl, rfl, rfl⟩
instance : FldIs Tryd.prog 118 4 25 4 := ⟨_, _, Tryd.underlying118, rfl, rfl, rfl⟩
instance : SzIs Tryd.prog 118 7 := ⟨by kernel_rfl⟩
instance : ByIs Tryd.prog 118 104 := ⟨by kernel_rfl⟩
instance : BuIs Tryd.prog 118 [.int .i64 0, .slice none 0 0, .slice none 0 0, .int .i64 0, .slice none 0 0, .int .i64 0, .int .i64 0] [(0, 1), (1, 1), (2, 1), (3, 1), (4, 3)] := ⟨fun _ => by kernel_rfl⟩
instance : ZcIs Tryd.prog 118 [.int .i64 0, .slice none 0 0, .slice none 0 0, .int .i64 0, .slice none 0 0, .int .i64 0, .int .i64 0] := ⟨by kernel_rfl⟩
instance : UIs Tryd.prog 119 (.func #[27, 3, 3, 3, 3, 118] #[4] false) := ⟨Tryd.underlying119⟩
instance : ScIs Tryd.prog 119 := ⟨_, Tryd.underlying119, rfl⟩
instance : SzIs Tryd.prog 119 1 := ⟨by kernel_rfl⟩
instance : ByIs Tryd.prog 119 8 := ⟨by kernel_rfl⟩
instance : ZcIs Tryd.prog 119 [.nilFunc] := ⟨by kernel_rfl⟩
instance : UIs Tryd.prog 120 (.func #[3, 3, 116] #[4] false) := ⟨Tryd.underlying120⟩
instance : ScIs Tryd.prog 120 := ⟨_, Tryd.underlying120, rfl⟩
instance : SzIs Tryd.prog 120 1 := ⟨by kernel_rfl⟩
instance : ByIs Tryd.prog 120 8 := ⟨by kernel_rfl⟩
instance : ZcIs Tryd.prog 120 [.nilFunc] := ⟨by kernel_rfl⟩
instance : UIs Tryd.prog 121 (.slice 127) := ⟨Tryd.underlying121⟩
instance : ScIs Tryd.prog 121 := ⟨_, Tryd.underlying121, rfl⟩
instance : SzIs Tryd.prog 121 1 := ⟨by kernel_rfl⟩
instance : ByIs Tryd.prog 121 24 := ⟨by kernel_rfl⟩
instance : ZcIs Tryd.prog 121 [.slice none 0 0] := ⟨by kernel_rfl⟩
instance : UIs Tryd.prog 122 (.pointer 125) := ⟨Tryd.underlying122⟩
instance : ScIs Tryd.prog 122 := ⟨_, Tryd.underlying122, rfl⟩
instance : SzIs Tryd.prog 122 1 := ⟨by kernel_rfl⟩
instance : ByIs Tryd.prog 122 8 := ⟨by kernel_rfl⟩
instance : ZcIs Tryd.prog 122 [.pointer none] := ⟨by kernel_rfl⟩
instance : UIs Tryd.prog 123 (.pointer 180) := ⟨Tryd.underlying123⟩
instance : ScIs Tryd.prog 123 := ⟨_, Tryd.underlying123, rfl⟩
instance : SzIs Tryd.prog 123 1 := ⟨by kernel_rfl⟩
instance : ByIs Tryd.prog 123 8 := ⟨by kernel_rfl⟩
instance : ZcIs Tryd.prog 123 [.pointer none] := ⟨by kernel_rfl⟩
instance : UIs Tryd.prog 124 (.struct #[{ name := "d", type := 27, offset := 0, embedded := false, tag := "", pkgPath := "remit/remitlaw10", byteOffset := 0 }, { name := "r", type := 51, offset := 1, embedded := false, tag := "", pkgPath := "remit/remitlaw10", byteOffset := 8 }, { name := "j", type := 99, offset := 2, embedded := false, tag := "", pkgPath := "remit/remitlaw10", byteOffset := 16 }, { name := "q", type := 123, offset := 3, embedded := false, tag := "", pkgPath := "remit/remitlaw10", byteOffset := 24 }]) := ⟨Tryd.underlying124⟩
instance : AgIs Tryd.prog 124 := ⟨_, Tryd.underlying124, rfl⟩
instance : FldIs Tryd.prog 124 0 27 0 := ⟨_, _, Tryd.underlying124, rfl, rfl, rfl⟩
instance : FldIs Tryd.prog 124 1 51 1 := ⟨_, _, Tryd.underlying124, rfl, rfl, rfl⟩
instance : FldIs Tryd.prog 124 2 99 2 := ⟨_, _, Tryd.underlying124, rfl, rfl, rfl⟩
instance : FldIs Tryd.prog 124 3 123 3 := ⟨_, _, Tryd.underlying124, rfl, rfl, rfl⟩
instance : SzIs Tryd.prog 124 4 := ⟨by kernel_rfl⟩
instance : ByIs Tryd.prog 124 32 := ⟨by kernel_rfl⟩
instance : BuIs Tryd.prog 124 [.pointer none, .pointer none, .pointer none, .pointer none] [(0, 1), (1, 1), (2, 1), (3, 1)] := ⟨fun _ => by kernel_rfl⟩
instance : ZcIs Tryd.prog 124 [.pointer none, .pointer none, .pointer none, .pointer none] := ⟨by kernel_rfl⟩
instance : UIs Tryd.prog 125 (.struct #[{ name := "d", type := 27, offset := 0, embedded := false, tag := "", pkgPath := "remit/remitlaw10", byteOffset := 0 }, { name := "r", type := 51, offset := 1, embedded := false, tag := "", pkgPath := "remit/remitlaw10", byteOffset := 8 }, { name := "j", type := 99, offset := 2, embedded := false, tag := "", pkgPath := "remit/remitlaw10", byteOffset := 16 }, { name := "q", type := 123, offset := 3, embedded := false, tag := "", pkgPath := "remit/remitlaw10", byteOffset := 24 }]) := ⟨Tryd.underlying125⟩
instance : AgIs Tryd.prog 125 := ⟨_, Tryd.underlying125, rfl⟩
instance : FldIs Tryd.prog 125 0 27 0 := ⟨_, _, Tryd.underlying125, rfl, rfl, rfl⟩
instance : FldIs Tryd.prog 125 1 51 1 := ⟨_, _, Tryd.underlying125, rfl, rfl, rfl⟩
instance : FldIs Tryd.prog 125 2 99 2 := ⟨_, _, Tryd.underlying125, rfl, rfl, rfl⟩
instance : FldIs Tryd.prog 125 3 123 3 := ⟨_, _, Tryd.underlying125, rfl, rfl, rfl⟩
instance : SzIs Tryd.prog 125 4 := ⟨by kernel_rfl⟩
instance : ByIs Tryd.prog 125 32 := ⟨by kernel_rfl⟩
instance : BuIs Tryd.prog 125 [.pointer none, .pointer none, .pointer none, .pointer none] [(0, 1), (1, 1), (2, 1), (3, 1)] := ⟨fun _ => by kernel_rfl⟩
instance : ZcIs Tryd.prog 125 [.pointer none, .pointer none, .pointer none, .pointer none] := ⟨by kernel_rfl⟩
instance : UIs Tryd.prog 126 (.struct #[{ name := "Kind", type := 3, offset := 0, embedded := false, tag := "", pkgPath := "", byteOffset := 0 }, { name := "At", type := 3, offset := 1, embedded := false, tag := "", pkgPath := "", byteOffset := 8 }, { name := "N", type := 3, offset := 2, embedded := false, tag := "", pkgPath := "", byteOffset := 16 }, { name := "Version", type := 3, offset := 3, embedded := false, tag := "", pkgPath := "", byteOffset := 24 }, { name := "Size", type := 3, offset := 4, embedded := false, tag := "", pkgPath := "", byteOffset := 32 }, { name := "Fill", type := 3, offset := 5, embedded := false, tag := "", pkgPath := "", byteOffset := 40 }, { name := "F", type := 25, offset := 6, embedded := false, tag := "", pkgPath := "", byteOffset := 48 }]) := ⟨Tryd.underlying126⟩
instance : AgIs Tryd.prog 126 := ⟨_, Tryd.underlying126, rfl⟩
instance : FldIs Tryd.prog 126 0 3 0 := ⟨_, _, Tryd.underlying126, rfl, rfl, rfl⟩
instance : FldIs Tryd.prog 126 1 3 1 := ⟨_, _, Tryd.underlying126, rfl, rfl, rfl⟩
instance : FldIs Tryd.prog 126 2 3 2 := ⟨_, _, Tryd.underlying126, rfl, rfl, rfl⟩
instance : FldIs Tryd.prog 126 3 3 3 := ⟨_, _, Tryd.underlying126, rfl, rfl, rfl⟩
instance : FldIs Tryd.prog 126 4 3 4 := ⟨_, _, Tryd.underlying126, rfl, rfl, rfl⟩
instance : FldIs Tryd.prog 126 5 3 5 := ⟨_, _, Tryd.underlying126, rfl, rfl, rfl⟩
instance : FldIs Tryd.prog 126 6 25 6 := ⟨_, _, Tryd.underlying126, rfl, rfl, rfl⟩
instance : SzIs Tryd.prog 126 9 := ⟨by kernel_rfl⟩
instance : ByIs Tryd.prog 126 88 := ⟨by kernel_rfl⟩
instance : BuIs Tryd.prog 126 [.int .i64 0, .int .i64 0, .int .i64 0, .int .i64 0, .int .i64 0, .int .i64 0, .slice none 0 0, .int .i64 0, .int .i64 0] [(0, 1), (1, 1), (2, 1), (3, 1), (4, 1), (5, 1), (6, 3)] := ⟨fun _ => by kernel_rfl⟩
instance : ZcIs Tryd.prog 126 [.int .i64 0, .int .i64 0, .int .i64 0, .int .i64 0, .int .i64 0, .int .i64 0, .slice none 0 0, .int .i64 0, .int .i64 0] := ⟨by kernel_rfl⟩
instance : UIs Tryd.prog 127 (.struct #[{ name := "Kind", type := 3, offset := 0, embedded := false, tag := "", pkgPath := "", byteOffset := 0 }, { name := "At", type := 3, offset := 1, embedded := false, tag := "", pkgPath := "", byteOffset := 8 }, { name := "N", type := 3, offset := 2, embedded := false, tag := "", pkgPath := "", byteOffset := 16 }, { name := "Version", type := 3, offset := 3, embedded := false, tag := "", pkgPath := "", byteOffset := 24 }, { name := "Size", type := 3, offset := 4, embedded := false, tag := "", pkgPath := "", byteOffset := 32 }, { name := "Fill", type := 3, offset := 5, embedded := false, tag := "", pkgPath := "", byteOffset := 40 }, { name := "F", type := 25, offset := 6, embedded := false, tag := "", pkgPath := "", byteOffset := 48 }]) := ⟨Tryd.underlying127⟩
instance : AgIs Tryd.prog 127 := ⟨_, Tryd.underlying127, rfl⟩
instance : FldIs Tryd.prog 127 0 3 0 := ⟨_, _, Tryd.underlying127, rfl, rfl, rfl⟩
instance : FldIs Tryd.prog 127 1 3 1 := ⟨_, _, Tryd.underlying127, rfl, rfl, rfl⟩
instance : FldIs Tryd.prog 127 2 3 2 := ⟨_, _, Tryd.underlying127, rfl, rfl, rfl⟩
instance : FldIs Tryd.prog 127 3 3 3 := ⟨_, _, Tryd.underlying127, rfl, rfl, rfl⟩
instance : FldIs Tryd.prog 127 4 3 4 := ⟨_, _, Tryd.underlying127, rfl, rfl, rfl⟩
instance : FldIs Tryd.prog 127 5 3 5 := ⟨_, _, Tryd.underlying127, rfl, rfl, rfl⟩
instance : FldIs Tryd.prog 127 6 25 6 := ⟨_, _, Tryd.underlying127, rfl, rfl, rfl⟩
instance : SzIs Tryd.prog 127 9 := ⟨by kernel_rfl⟩
instance : ByIs Tryd.prog 127 88 := ⟨by kernel_rfl⟩
instance : BuIs Tryd.prog 127 [.int .i64 0, .int .i64 0, .int .i64 0, .int .i64 0, .int .i64 0, .int .i64 0, .slice none 0 0, .int .i64 0, .int .i64 0] [(0, 1), (1, 1), (2, 1), (3, 1), (4, 1), (5, 1), (6, 3)] := ⟨fun _ => by kernel_rfl⟩
instance : ZcIs Tryd.prog 127 [.int .i64 0, .int .i64 0, .int .i64 0, .int .i64 0, .int .i64 0, .int .i64 0, .slice none 0 0, .int .i64 0, .int .i64 0] := ⟨by kernel_rfl⟩
instance : UIs Tryd.prog 128 (.func #[127] #[4] false) := ⟨Tryd.underlying128⟩
instance : ScIs Tryd.prog 128 := ⟨_, Tryd.underlying128, rfl⟩
instance : SzIs Tryd.prog 128 1 := ⟨by kernel_rfl⟩
instance : ByIs Tryd.prog 128 8 := ⟨by kernel_rfl⟩
instance : ZcIs Tryd.prog 128 [.nilFunc] := ⟨by kernel_rfl⟩
instance : UIs Tryd.prog 129 (.func #[3, 121] #[4] false) := ⟨Tryd.underlying129⟩
instance : ScIs Tryd.prog 129 := ⟨_, Tryd.underlying129, rfl⟩
instance : SzIs Tryd.prog 129 1 := ⟨by kernel_rfl⟩
instance : ByIs Tryd.prog 129 8 := ⟨by kernel_rfl⟩
instance : ZcIs Tryd.prog 129 [.nilFunc] := ⟨by kernel_rfl⟩
instance : UIs Tryd.prog 130 (.slice 136) := ⟨Tryd.underlying130⟩
instance : ScIs Tryd.prog 130 := ⟨_, Tryd.underlying130, rfl⟩
instance : SzIs Tryd.prog 130 1 := ⟨by kernel_rfl⟩
instance : ByIs Tryd.prog 130 24 := ⟨by kernel_rfl⟩
instance : ZcIs Tryd.prog 130 [.slice none 0 0] := ⟨by kernel_rfl⟩
instance : UIs Tryd.prog 131 (.slice 138) := ⟨Tryd.underlying131⟩
instance : ScIs Tryd.prog 131 := ⟨_, Tryd.underlying131, rfl⟩
instance : SzIs Tryd.prog 131 1 := ⟨by kernel_rfl⟩
instance : ByIs Tryd.prog 131 24 := ⟨by kernel_rfl⟩
instance : ZcIs Tryd.prog 131 [.slice none 0 0] := ⟨by kernel_rfl⟩
instance : UIs Tryd.prog 132 (.map 3 3) := ⟨Tryd.underlying132⟩
instance : ScIs Tryd.prog 132 := ⟨_, Tryd.underlying132, rfl⟩
instance : SzIs Tryd.prog 132 1 := ⟨by kernel_rfl⟩
instance : ByIs Tryd.prog 132 8 := ⟨by kernel_rfl⟩
instance : ZcIs Tryd.prog 132 [.map none] := ⟨by kernel_rfl⟩
instance : UIs Tryd.prog 133 (.struct #[{ name := "durable", type := 130, offset := 0, embedded := false, tag := "", pkgPath := "remit/disk", byteOffset := 0 }, { name := "under", type := 131, offset := 1, embedded := false, tag := "", pkgPath := "remit/disk", byteOffset := 24 }, { name := "last", type := 132, offset := 2, embedded := false, tag := "", pkgPath := "remit/disk", byteOffset := 48 }, { name := "off", type := 4, offset := 3, embedded := false, tag := "", pkgPath := "remit/disk", byteOffset := 56 }, { name := "armed", type := 3, offset := 4, embedded := false, tag := "", pkgPath := "remit/disk", byteOffset := 64 }, { name := "writes", type := 3, offset := 5, embedded := false, tag := "", pkgPath := "remit/disk", byteOffset := 72 }, { name := "flushes", type := 3, offset := 6, embedded := false, tag := "", pkgPath := "remit/disk", byteOffset := 80 }, { name := "life", type := 3, offset := 7, embedded := false, tag := "", pkgPath := "remit/disk", byteOffset := 88 }]) := ⟨Tryd.underlying133⟩
instance : AgIs Tryd.prog 133 := ⟨_, Tryd.underlying133, rfl⟩
instance : FldIs Tryd.prog 133 0 130 0 := ⟨_, _, Tryd.underlying133, rfl, rfl, rfl⟩
instance : FldIs Tryd.prog 133 1 131 1 := ⟨_, _, Tryd.underlying133, rfl, rfl, rfl⟩
instance : FldIs Tryd.prog 133 2 132 2 := ⟨_, _, Tryd.underlying133, rfl, rfl, rfl⟩
instance : FldIs Tryd.prog 133 3 4 3 := ⟨_, _, Tryd.underlying133, rfl, rfl, rfl⟩
instance : FldIs Tryd.prog 133 4 3 4 := ⟨_, _, Tryd.underlying133, rfl, rfl, rfl⟩
instance : FldIs Tryd.prog 133 5 3 5 := ⟨_, _, Tryd.underlying133, rfl, rfl, rfl⟩
instance : FldIs Tryd.prog 133 6 3 6 := ⟨_, _, Tryd.underlying133, rfl, rfl, rfl⟩
instance : FldIs Tryd.prog 133 7 3 7 := ⟨_, _, Tryd.underlying133, rfl, rfl, rfl⟩
instance : SzIs Tryd.prog 133 8 := ⟨by kernel_rfl⟩
instance : ByIs Tryd.prog 133 96 := ⟨by kernel_rfl⟩
instance : BuIs Tryd.prog 133 [.slice none 0 0, .slice none 0 0, .map none, .bool false, .int .i64 0, .int .i64 0, .int .i64 0, .int .i64 0] [(0, 1), (1, 1), (2, 1), (3, 1), (4, 1), (5, 1), (6, 1), (7, 1)] := ⟨fun _ => by kernel_rfl⟩
instance : ZcIs Tryd.prog 133 [.slice none 0 0, .slice none 0 0, .map none, .bool false, .int .i64 0, .int .i64 0, .int .i64 0, .int .i64 0] := ⟨by kernel_rfl⟩
instance : UIs Tryd.prog 134 (.struct #[{ name := "durable", type := 130, offset := 0, embedded := false, tag := "", pkgPath := "remit/disk", byteOffset := 0 }, { name := "under", type := 131, offset := 1, embedded := false, tag := "", pkgPath := "remit/disk", byteOffset := 24 }, { name := "last", type := 132, offset := 2, embedded := false, tag := "", pkgPath := "remit/disk", byteOffset := 48 }, { name := "off", type := 4, offset := 3, embedded := false, tag := "", pkgPath := "remit/disk", byteOffset := 56 }, { name := "armed", type := 3, offset := 4, embedded := false, tag := "", pkgPath := "remit/disk", byteOffset := 64 }, { name := "writes", type := 3, offset := 5, embedded := false, tag := "", pkgPath := "remit/disk", byteOffset := 72 }, { name := "flushes", type := 3, offset := 6, embedded := false, tag := "", pkgPath := "remit/disk", byteOffset := 80 }, { name := "life", type := 3, offset := 7, embedded := false, tag := "", pkgPath := "remit/disk", byteOffset := 88 }]) := ⟨Tryd.underlying134⟩
instance : AgIs Tryd.prog 134 := ⟨_, Tryd.underlying134, rfl⟩
instance : FldIs Tryd.prog 134 0 130 0 := ⟨_, _, Tryd.underlying134, rfl, rfl, rfl⟩
instance : FldIs Tryd.prog 134 1 131 1 := ⟨_, _, Tryd.underlying134, rfl, rfl, rfl⟩
instance : FldIs Tryd.prog 134 2 132 2 := ⟨_, _, Tryd.underlying134, rfl, rfl, rfl⟩
instance : FldIs Tryd.prog 134 3 4 3 := ⟨_, _, Tryd.underlying134, rfl, rfl, rfl⟩
instance : FldIs Tryd.prog 134 4 3 4 := ⟨_, _, Tryd.underlying134, rfl, rfl, rfl⟩
instance : FldIs Tryd.prog 134 5 3 5 := ⟨_, _, Tryd.underlying134, rfl, rfl, rfl⟩
instance : FldIs Tryd.prog 134 6 3 6 := ⟨_, _, Tryd.underlying134, rfl, rfl, rfl⟩
instance : FldIs Tryd.prog 134 7 3 7 := ⟨_, _, Tryd.underlying134, rfl, rfl, rfl⟩
instance : SzIs Tryd.prog 134 8 := ⟨by kernel_rfl⟩
instance : ByIs Tryd.prog 134 96 := ⟨by kernel_rfl⟩
instance : BuIs Tryd.prog 134 [.slice none 0 0, .slice none 0 0, .map none, .bool false, .int .i64 0, .int .i64 0, .int .i64 0, .int .i64 0] [(0, 1), (1, 1), (2, 1), (3, 1), (4, 1), (5, 1), (6, 1), (7, 1)] := ⟨fun _ => by kernel_rfl⟩
instance : ZcIs Tryd.prog 134 [.slice none 0 0, .slice none 0 0, .map none, .bool false, .int .i64 0, .int .i64 0, .int .i64 0, .int .i64 0] := ⟨by kernel_rfl⟩
instance : UIs Tryd.prog 135 (.array 256 5) := ⟨Tryd.underlying135⟩
instance : AgIs Tryd.prog 135 := ⟨_, Tryd.underlying135, rfl⟩
instance : SzIs Tryd.prog 135 256 := ⟨by kernel_rfl⟩
instance : ByIs Tryd.prog 135 256 := ⟨by kernel_rfl⟩
instance : UIs Tryd.prog 136 (.array 256 5) := ⟨Tryd.underlying136⟩
instance : AgIs Tryd.prog 136 := ⟨_, Tryd.underlying136, rfl⟩
instance : SzIs Tryd.prog 136 256 := ⟨by kernel_rfl⟩
instance : ByIs Tryd.prog 136 256 := ⟨by kernel_rfl⟩
instance : UIs Tryd.prog 137 (.struct #[{ name := "at", type := 3, offset := 0, embedded := false, tag := "", pkgPath := "remit/disk", byteOffset := 0 }, { name := "bytes", type := 136, offset := 1, embedded := false, tag := "", pkgPath := "remit/disk", byteOffset := 8 }]) := ⟨Tryd.underlying137⟩
instance : AgIs Tryd.prog 137 := ⟨_, Tryd.underlying137, rfl⟩
instance : FldIs Tryd.prog 137 0 3 0 := ⟨_, _, Tryd.underlying137, rfl, rfl, rfl⟩
instance : FldIs Tryd.prog 137 1 136 1 := ⟨_, _, Tryd.underlying137, rfl, rfl, rfl⟩
instance : SzIs Tryd.prog 137 257 := ⟨by kernel_rfl⟩
instance : ByIs Tryd.prog 137 264 := ⟨by kernel_rfl⟩
instance : UIs Tryd.prog 138 (.struct #[{ name := "at", type := 3, offset := 0, embedded := false, tag := "", pkgPath := "remit/disk", byteOffset := 0 }, { name := "bytes", type := 136, offset := 1, embedded := false, tag := "", pkgPath := "remit/disk", byteOffset := 8 }]) := ⟨Tryd.underlying138⟩
instance : AgIs Tryd.prog 138 := ⟨_, Tryd.underlying138, rfl⟩
instance : FldIs Tryd.prog 138 0 3 0 := ⟨_, _, Tryd.underlying138, rfl, rfl, rfl⟩
instance : FldIs Tryd.prog 138 1 136 1 := ⟨_, _, Tryd.underlying138, rfl, rfl, rfl⟩
instance : SzIs Tryd.prog 138 257 := ⟨by kernel_rfl⟩
instance : ByIs Tryd.prog 138 264 := ⟨by kernel_rfl⟩
instance : UIs Tryd.prog 140 (.func #[3] #[27] false) := ⟨Tryd.underlying140⟩
instance : ScIs Tryd.prog 140 := ⟨_, Tryd.underlying140, rfl⟩
instance : SzIs Tryd.prog 140 1 := ⟨by kernel_rfl⟩
instance : ByIs Tryd.prog 140 8 := ⟨by kernel_rfl⟩
instance : ZcIs Tryd.prog 140 [.nilFunc] := ⟨by kernel_rfl⟩
instance : UIs Tryd.prog 141 (.array 37 31) := ⟨Tryd.underlying141⟩
instance : AgIs Tryd.prog 141 := ⟨_, Tryd.underlying141, rfl⟩
instance : SzIs Tryd.prog 141 37 := ⟨by kernel_rfl⟩
instance : ByIs Tryd.prog 141 592 := ⟨by kernel_rfl⟩
instance : ZcIs Tryd.prog 141 [.nilIface, .nilIface, .nilIface, .nilIface, .nilIface, .nilIface, .nilIface, .nilIface, .nilIface, .nilIface, .nilIface, .nilIface, .nilIface, .nilIface, .nilIface, .nilIface, .nilIface, .nilIface, .nilIface, .nilIface, .nilIface, .nilIface, .nilIface, .nilIface, .nilIface, .nilIface, .nilIface, .nilIface, .nilIface, .nilIface, .nilIface, .nilIface, .nilIface, .nilIface, .nilIface, .nilIface, .nilIface] := ⟨by kernel_rfl⟩
instance : UIs Tryd.prog 142 (.func #[] #[141] false) := ⟨Tryd.underlying142⟩
instance : ScIs Tryd.prog 142 := ⟨_, Tryd.underlying142, rfl⟩
instance : SzIs Tryd.prog 142 1 := ⟨by kernel_rfl⟩
instance : ByIs Tryd.prog 142 8 := ⟨by kernel_rfl⟩
instance : ZcIs Tryd.prog 142 [.nilFunc] := ⟨by kernel_rfl⟩
instance : UIs Tryd.prog 143 (.func #[27, 51, 43] #[4] false) := ⟨Tryd.underlying143⟩
instance : ScIs Tryd.prog 143 := ⟨_, Tryd.underlying143, rfl⟩
instance : SzIs Tryd.prog 143 1 := ⟨by kernel_rfl⟩
instance : ByIs Tryd.prog 143 8 := ⟨by kernel_rfl⟩
instance : ZcIs Tryd.prog 143 [.nilFunc] := ⟨by kernel_rfl⟩
instance : UIs Tryd.prog 144 (.func #[27, 3] #[4] false) := ⟨Tryd.underlying144⟩
instance : ScIs Tryd.prog 144 := ⟨_, Tryd.underlying144, rfl⟩
instance : SzIs Tryd.prog 144 1 := ⟨by kernel_rfl⟩
instance : ByIs Tryd.prog 144 8 := ⟨by kernel_rfl⟩
instance : ZcIs Tryd.prog 144 [.nilFunc] := ⟨by kernel_rfl⟩
instance : UIs Tryd.prog 145 (.func #[79, 9] #[9, 31] false) := ⟨Tryd.underlying145⟩
instance : ScIs Tryd.prog 145 := ⟨_, Tryd.underlying145, rfl⟩
instance : SzIs Tryd.prog 145 1 := ⟨by kernel_rfl⟩
instance : ByIs Tryd.prog 145 8 := ⟨by kernel_rfl⟩
instance : ZcIs Tryd.prog 145 [.nilFunc] := ⟨by kernel_rfl⟩
instance : UIs Tryd.prog 147 (.func #[9, 3] #[3, 9] false) := ⟨Tryd.underlying147⟩
instance : ScIs Tryd.prog 147 := ⟨_, Tryd.underlying147, rfl⟩
instance : SzIs Tryd.prog 147 1 := ⟨by kernel_rfl⟩
instance : ByIs Tryd.prog 147 8 := ⟨by kernel_rfl⟩
instance : ZcIs Tryd.prog 147 [.nilFunc] := ⟨by kernel_rfl⟩
instance : UIs Tryd.prog 148 (.func #[9, 3] #[9, 3] false) := ⟨Tryd.underlying148⟩
instance : ScIs Tryd.prog 148 := ⟨_, Tryd.underlying148, rfl⟩
instance : SzIs Tryd.prog 148 1 := ⟨by kernel_rfl⟩
instance : ByIs Tryd.prog 148 8 := ⟨by kernel_rfl⟩
instance : ZcIs Tryd.prog 148 [.nilFunc] := ⟨by kernel_rfl⟩
instance : UIs Tryd.prog 149 (.func #[27, 3, 3] #[4] false) := ⟨Tryd.underlying149⟩
instance : ScIs Tryd.prog 149 := ⟨_, Tryd.underlying149, rfl⟩
instance : SzIs Tryd.prog 149 1 := ⟨by kernel_rfl⟩
instance : ByIs Tryd.prog 149 8 := ⟨by kernel_rfl⟩
instance : ZcIs Tryd.prog 149 [.nilFunc] := ⟨by kernel_rfl⟩
instance : UIs Tryd.prog 150 (.pointer 152) := ⟨Tryd.underlying150⟩
instance : ScIs Tryd.prog 150 := ⟨_, Tryd.underlying150, rfl⟩
instance : SzIs Tryd.prog 150 1 := ⟨by kernel_rfl⟩
instance : ByIs Tryd.prog 150 8 := ⟨by kernel_rfl⟩
instance : ZcIs Tryd.prog 150 [.pointer none] := ⟨by kernel_rfl⟩
instance : UIs Tryd.prog 151 (.struct #[{ name := "addr", type := 150, offset := 0, embedded := false, tag := "", pkgPath := "strings", byteOffset := 0 }, { name := "buf", type := 112, offset := 1, embedded := false, tag := "", pkgPath := "strings", byteOffset := 8 }]) := ⟨Tryd.underlying151⟩
instance : AgIs Tryd.prog 151 := ⟨_, Tryd.underlying151, rfl⟩
instance : FldIs Tryd.prog 151 0 150 0 := ⟨_, _, Tryd.underlying151, rfl, rfl, rfl⟩
instance : FldIs Tryd.prog 151 1 112 1 := ⟨_, _, Tryd.underlying151, rfl, rfl, rfl⟩
instance : SzIs Tryd.prog 151 2 := ⟨by kernel_rfl⟩
instance : ByIs Tryd.prog 151 32 := ⟨by kernel_rfl⟩
instance : BuIs Tryd.prog 151 [.pointer none, .slice none 0 0] [(0, 1), (1, 1)] := ⟨fun _ => by kernel_rfl⟩
instance : ZcIs Tryd.prog 151 [.pointer none, .slice none 0 0] := ⟨by kernel_rfl⟩
instance : UIs Tryd.prog 152 (.struct #[{ name := "addr", type := 150, offset := 0, embedded := false, tag := "", pkgPath := "strings", byteOffset := 0 }, { name := "buf", type := 112, offset := 1, embedded := false, tag := "", pkgPath := "strings", byteOffset := 8 }]) := ⟨Tryd.underlying152⟩
instance : AgIs Tryd.prog 152 := ⟨_, Tryd.underlying152, rfl⟩
instance : FldIs Tryd.prog 152 0 150 0 := ⟨_, _, Tryd.underlying152, rfl, rfl, rfl⟩
instance : FldIs Tryd.prog 152 1 112 1 := ⟨_, _, Tryd.underlying152, rfl, rfl, rfl⟩
instance : SzIs Tryd.prog 152 2 := ⟨by kernel_rfl⟩
instance : ByIs Tryd.prog 152 32 := ⟨by kernel_rfl⟩
instance : BuIs Tryd.prog 152 [.pointer none, .slice none 0 0] [(0, 1), (1, 1)] := ⟨fun _ => by kernel_rfl⟩
instance : ZcIs Tryd.prog 152 [.pointer none, .slice none 0 0] := ⟨by kernel_rfl⟩
instance : UIs Tryd.prog 154 (.func #[79, 9] #[9, 4] false) := ⟨Tryd.underlying154⟩
instance : ScIs Tryd.prog 154 := ⟨_, Tryd.underlying154, rfl⟩
instance : SzIs Tryd.prog 154 1 := ⟨by kernel_rfl⟩
instance : ByIs Tryd.prog 154 8 := ⟨by kernel_rfl⟩
instance : ZcIs Tryd.prog 154 [.nilFunc] := ⟨by kernel_rfl⟩
instance : UIs Tryd.prog 156 (.func #[9] #[3, 31] false) := ⟨Tryd.underlying156⟩
instance : ScIs Tryd.prog 156 := ⟨_, Tryd.underlying156, rfl⟩
instance : SzIs Tryd.prog 156 1 := ⟨by kernel_rfl⟩
instance : ByIs Tryd.prog 156 8 := ⟨by kernel_rfl⟩
instance : ZcIs Tryd.prog 156 [.nilFunc] := ⟨by kernel_rfl⟩
instance : UIs Tryd.prog 157 (.func #[79, 9] #[9, 3] false) := ⟨Tryd.underlying157⟩
instance : ScIs Tryd.prog 157 := ⟨_, Tryd.underlying157, rfl⟩
instance : SzIs Tryd.prog 157 1 := ⟨by kernel_rfl⟩
instance : ByIs Tryd.prog 157 8 := ⟨by kernel_rfl⟩
instance : ZcIs Tryd.prog 157 [.nilFunc] := ⟨by kernel_rfl⟩
instance : UIs Tryd.prog 158 (.func #[51, 3, 3, 79, 9] #[3] false) := ⟨Tryd.underlying158⟩
instance : ScIs Tryd.prog 158 := ⟨_, Tryd.underlying158, rfl⟩
instance : SzIs Tryd.prog 158 1 := ⟨by kernel_rfl⟩
instance : ByIs Tryd.prog 158 8 := ⟨by kernel_rfl⟩
instance : ZcIs Tryd.prog 158 [.nilFunc] := ⟨by kernel_rfl⟩
instance : UIs Tryd.prog 159 (.func #[51, 3, 3, 79, 3] #[9, 3] false) := ⟨Tryd.underlying159⟩
instance : ScIs Tryd.prog 159 := ⟨_, Tryd.underlying159, rfl⟩
instance : SzIs Tryd.prog 159 1 := ⟨by kernel_rfl⟩
instance : ByIs Tryd.prog 159 8 := ⟨by kernel_rfl⟩
instance : ZcIs Tryd.prog 159 [.nilFunc] := ⟨by kernel_rfl⟩
instance : UIs Tryd.prog 160 (.func #[3] #[9, 3] false) := ⟨Tryd.underlying160⟩
instance : ScIs Tryd.prog 160 := ⟨_, Tryd.underlying160, rfl⟩
instance : SzIs Tryd.prog 160 1 := ⟨by kernel_rfl⟩
instance : ByIs Tryd.prog 160 8 := ⟨by kernel_rfl⟩
instance : ZcIs Tryd.prog 160 [.nilFunc] := ⟨by kernel_rfl⟩
instance : UIs Tryd.prog 161 (.func #[3, 9] #[3] false) := ⟨Tryd.underlying161⟩
instance : ScIs Tryd.prog 161 := ⟨_, Tryd.underlying161, rfl⟩
instance : SzIs Tryd.prog 161 1 := ⟨by kernel_rfl⟩
instance : ByIs Tryd.prog 161 8 := ⟨by kernel_rfl⟩
instance : ZcIs Tryd.prog 161 [.nilFunc] := ⟨by kernel_rfl⟩
instance : UIs Tryd.prog 162 (.struct #[{ name := "d", type := 27, offset := 0, embedded := false, tag := "", pkgPath := "remit/journal", byteOffset := 0 }, { name := "at", type := 3, offset := 1, embedded := false, tag := "", pkgPath := "remit/journal", byteOffset := 8 }, { name := "n", type := 3, offset := 2, embedded := false, tag := "", pkgPath := "remit/journal", byteOffset := 16 }, { name := "version", type := 3, offset := 3, embedded := false, tag := "", pkgPath := "remit/journal", byteOffset := 24 }]) := ⟨Tryd.underlying162⟩
instance : AgIs Tryd.prog 162 := ⟨_, Tryd.underlying162, rfl⟩
instance : FldIs Tryd.prog 162 0 27 0 := ⟨_, _, Tryd.underlying162, rfl, rfl, rfl⟩
instance : FldIs Tryd.prog 162 1 3 1 := ⟨_, _, Tryd.underlying162, rfl, rfl, rfl⟩
instance : FldIs Tryd.prog 162 2 3 2 := ⟨_, _, Tryd.underlying162, rfl, rfl, rfl⟩
instance : FldIs Tryd.prog 162 3 3 3 := ⟨_, _, Tryd.underlying162, rfl, rfl, rfl⟩
instance : SzIs Tryd.prog 162 4 := ⟨by kernel_rfl⟩
instance : ByIs Tryd.prog 162 32 := ⟨by kernel_rfl⟩
instance : BuIs Tryd.prog 162 [.pointer none, .int .i64 0, .int .i64 0, .int .i64 0] [(0, 1), (1, 1), (2, 1), (3, 1)] := ⟨fun _ => by kernel_rfl⟩
instance : ZcIs Tryd.prog 162 [.pointer none, .int .i64 0, .int .i64 0, .int .i64 0] := ⟨by kernel_rfl⟩
instance : UIs Tryd.prog 163 (.struct #[{ name := "d", type := 27, offset := 0, embedded := false, tag := "", pkgPath := "remit/journal", byteOffset := 0 }, { name := "at", type := 3, offset := 1, embedded := false, tag := "", pkgPath := "remit/journal", byteOffset := 8 }, { name := "n", type := 3, offset := 2, embedded := false, tag := "", pkgPath := "remit/journal", byteOffset := 16 }, { name := "version", type := 3, offset := 3, embedded := false, tag := "", pkgPath := "remit/journal", byteOffset := 24 }]) := ⟨Tryd.underlying163⟩
instance : AgIs Tryd.prog 163 := ⟨_, Tryd.underlying163, rfl⟩
instance : FldIs Tryd.prog 163 0 27 0 := ⟨_, _, Tryd.underlying163, rfl, rfl, rfl⟩
instance : FldIs Tryd.prog 163 1 3 1 := ⟨_, _, Tryd.underlying163, rfl, rfl, rfl⟩
instance : FldIs Tryd.prog 163 2 3 2 := ⟨_, _, Tryd.underlying163, rfl, rfl, rfl⟩
instance : FldIs Tryd.prog 163 3 3 3 := ⟨_, _, Tryd.underlying163, rfl, rfl, rfl⟩
instance : SzIs Tryd.prog 163 4 := ⟨by kernel_rfl⟩
instance : ByIs Tryd.prog 163 32 := ⟨by kernel_rfl⟩
instance : BuIs Tryd.prog 163 [.pointer none, .int .i64 0, .int .i64 0, .int .i64 0] [(0, 1), (1, 1), (2, 1), (3, 1)] := ⟨fun _ => by kernel_rfl⟩
instance : ZcIs Tryd.prog 163 [.pointer none, .int .i64 0, .int .i64 0, .int .i64 0] := ⟨by kernel_rfl⟩
instance : UIs Tryd.prog 164 (.struct #[{ name := "log", type := 163, offset := 0, embedded := true, tag := "", pkgPath := "remit/journal", byteOffset := 0 }, { name := "used", type := 3, offset := 4, embedded := false, tag := "", pkgPath := "remit/journal", byteOffset := 32 }, { name := "life", type := 3, offset := 5, embedded := false, tag := "", pkgPath := "remit/journal", byteOffset := 40 }, { name := "dead", type := 4, offset := 6, embedded := false, tag := "", pkgPath := "remit/journal", byteOffset := 48 }]) := ⟨Tryd.underlying164⟩
instance : AgIs Tryd.prog 164 := ⟨_, Tryd.underlying164, rfl⟩
instance : FldIs Tryd.prog 164 0 163 0 := ⟨_, _, Tryd.underlying164, rfl, rfl, rfl⟩
instance : FldIs Tryd.prog 164 1 3 4 := ⟨_, _, Tryd.underlying164, rfl, rfl, rfl⟩
instance : FldIs Tryd.prog 164 2 3 5 := ⟨_, _, Tryd.underlying164, rfl, rfl, rfl⟩
instance : FldIs Tryd.prog 164 3 4 6 := ⟨_, _, Tryd.underlying164, rfl, rfl, rfl⟩
instance : SzIs Tryd.prog 164 7 := ⟨by kernel_rfl⟩
instance : ByIs Tryd.prog 164 56 := ⟨by kernel_rfl⟩
instance : BuIs Tryd.prog 164 [.pointer none, .int .i64 0, .int .i64 0, .int .i64 0, .int .i64 0, .int .i64 0, .bool false] [(0, 4), (4, 1), (5, 1), (6, 1)] := ⟨fun _ => by kernel_rfl⟩
instance : ZcIs Tryd.prog 164 [.pointer none, .int .i64 0, .int .i64 0, .int .i64 0, .int .i64 0, .int .i64 0, .bool false] := ⟨by kernel_rfl⟩
instance : UIs Tryd.prog 165 (.struct #[{ name := "log", type := 163, offset := 0, embedded := true, tag := "", pkgPath := "remit/journal", byteOffset := 0 }, { name := "used", type := 3, offset := 4, embedded := false, tag := "", pkgPath := "remit/journal", byteOffset := 32 }, { name := "life", type := 3, offset := 5, embedded := false, tag := "", pkgPath := "remit/journal", byteOffset := 40 }, { name := "dead", type := 4, offset := 6, embedded := false, tag := "", pkgPath := "remit/journal", byteOffset := 48 }]) := ⟨Tryd.underlying165⟩
instance : AgIs Tryd.prog 165 := ⟨_, Tryd.underlying165, rfl⟩
instance : FldIs Tryd.prog 165 0 163 0 := ⟨_, _, Tryd.underlying165, rfl, rfl, rfl⟩
instance : FldIs Tryd.prog 165 1 3 4 := ⟨_, _, Tryd.underlying165, rfl, rfl, rfl⟩
instance : FldIs Tryd.prog 165 2 3 5 := ⟨_, _, Tryd.underlying165, rfl, rfl, rfl⟩
instance : FldIs Tryd.prog 165 3 4 6 := ⟨_, _, Tryd.underlying165, rfl, rfl, rfl⟩
instance : SzIs Tryd.prog 165 7 := ⟨by kernel_rfl⟩
instance : ByIs Tryd.prog 165 56 := ⟨by kernel_rfl⟩
instance : BuIs Tryd.prog 165 [.pointer none, .int .i64 0, .int .i64 0, .int .i64 0, .int .i64 0, .int .i64 0, .bool false] [(0, 4), (4, 1), (5, 1), (6, 1)] := ⟨fun _ => by kernel_rfl⟩
instance : ZcIs Tryd.prog 165 [.pointer none, .int .i64 0, .int .i64 0, .int .i64 0, .int .i64 0, .int .i64 0, .bool false] := ⟨by kernel_rfl⟩
instance : UIs Tryd.prog 166 (.func #[9] #[47] false) := ⟨Tryd.underlying166⟩
instance : ScIs Tryd.prog 166 := ⟨_, Tryd.underlying166, rfl⟩
instance : SzIs Tryd.prog 166 1 := ⟨by kernel_rfl⟩
instance : ByIs Tryd.prog 166 8 := ⟨by kernel_rfl⟩
instance : ZcIs Tryd.prog 166 [.nilFunc] := ⟨by kernel_rfl⟩
instance : UIs Tryd.prog 168 (.func #[3, 3] #[79, 31] false) := ⟨Tryd.underlying168⟩
instance : ScIs Tryd.prog 168 := ⟨_, Tryd.underlying168, rfl⟩
instance : SzIs Tryd.prog 168 1 := ⟨by kernel_rfl⟩
instance : ByIs Tryd.prog 168 8 := ⟨by kernel_rfl⟩
instance : ZcIs Tryd.prog 168 [.nilFunc] := ⟨by kernel_rfl⟩
instance : UIs Tryd.prog 170 (.func #[3] #[9, 3, 4] false) := ⟨Tryd.underlying170⟩
instance : ScIs Tryd.prog 170 := ⟨_, Tryd.underlying170, rfl⟩
instance : SzIs Tryd.prog 170 1 := ⟨by kernel_rfl⟩
instance : ByIs Tryd.prog 170 8 := ⟨by kernel_rfl⟩
instance : ZcIs Tryd.prog 170 [.nilFunc] := ⟨by kernel_rfl⟩
instance : UIs Tryd.prog 171 (.func #[3, 9] #[4] false) := ⟨Tryd.underlying171⟩
instance : ScIs Tryd.prog 171 := ⟨_, Tryd.underlying171, rfl⟩
instance : SzIs Tryd.prog 171 1 := ⟨by kernel_rfl⟩
instance : ByIs Tryd.prog 171 8 := ⟨by kernel_rfl⟩
instance : ZcIs Tryd.prog 171 [.nilFunc] := ⟨by kernel_rfl⟩
instance : UIs Tryd.prog 173 (.func #[51, 3, 3, 3] #[47, 3] false) := ⟨Tryd.underlying173⟩
instance : ScIs Tryd.prog 173 := ⟨_, Tryd.underlying173, rfl⟩
instance : SzIs Tryd.prog 173 1 := ⟨by kernel_rfl⟩
instance : ByIs Tryd.prog 173 8 := ⟨by kernel_rfl⟩
instance : ZcIs Tryd.prog 173 [.nilFunc] := ⟨by kernel_rfl⟩
instance : UIs Tryd.prog 175 (.func #[27, 3, 3, 3] #[47, 4] false) := ⟨Tryd.underlying175⟩
instance : ScIs Tryd.prog 175 := ⟨_, Tryd.underlying175, rfl⟩
instance : SzIs Tryd.prog 175 1 := ⟨by kernel_rfl⟩
instance : ByIs Tryd.prog 175 8 := ⟨by kernel_rfl⟩
instance : ZcIs Tryd.prog 175 [.nilFunc] := ⟨by kernel_rfl⟩
instance : UIs Tryd.prog 177 (.func #[51, 3, 3, 3] #[123, 3] false) := ⟨Tryd.underlying177⟩
instance : ScIs Tryd.prog 177 := ⟨_, Tryd.underlying177, rfl⟩
instance : SzIs Tryd.prog 177 1 := ⟨by kernel_rfl⟩
instance : ByIs Tryd.prog 177 8 := ⟨by kernel_rfl⟩
instance : ZcIs Tryd.prog 177 [.nilFunc] := ⟨by kernel_rfl⟩
instance : UIs Tryd.prog 178 (.func #[9] #[3] false) := ⟨Tryd.underlying178⟩
instance : ScIs Tryd.prog 178 := ⟨_, Tryd.underlying178, rfl⟩
instance : SzIs Tryd.prog 178 1 := ⟨by kernel_rfl⟩
instance : ByIs Tryd.prog 178 8 := ⟨by kernel_rfl⟩
instance : ZcIs Tryd.prog 178 [.nilFunc] := ⟨by kernel_rfl⟩
instance : UIs Tryd.prog 179 (.struct #[{ name := "D", type := 51, offset := 0, embedded := false, tag := "", pkgPath := "", byteOffset := 0 }, { name := "At", type := 3, offset := 1, embedded := false, tag := "", pkgPath := "", byteOffset := 8 }, { name := "N", type := 3, offset := 2, embedded := false, tag := "", pkgPath := "", byteOffset := 16 }, { name := "Version", type := 3, offset := 3, embedded := false, tag := "", pkgPath := "", byteOffset := 24 }, { name := "Used", type := 3, offset := 4, embedded := false, tag := "", pkgPath := "", byteOffset := 32 }, { name := "Dead", type := 4, offset := 5, embedded := false, tag := "", pkgPath := "", byteOffset := 40 }, { name := "Life", type := 3, offset := 6, embedded := false, tag := "", pkgPath := "", byteOffset := 48 }]) := ⟨Tryd.underlying179⟩
instance : AgIs Tryd.prog 179 := ⟨_, Tryd.underlying179, rfl⟩
instance : FldIs Tryd.prog 179 0 51 0 := ⟨_, _, Tryd.underlying179, rfl, rfl, rfl⟩
instance : FldIs Tryd.prog 179 1 3 1 := ⟨_, _, Tryd.underlying179, rfl, rfl, rfl⟩
instance : FldIs Tryd.prog 179 2 3 2 := ⟨_, _, Tryd.underlying179, rfl, rfl, rfl⟩
instance : FldIs Tryd.prog 179 3 3 3 := ⟨_, _, Tryd.underlying179, rfl, rfl, rfl⟩
instance : FldIs Tryd.prog 179 4 3 4 := ⟨_, _, Tryd.underlying179, rfl, rfl, rfl⟩
instance : FldIs Tryd.prog 179 5 4 5 := ⟨_, _, Tryd.underlying179, rfl, rfl, rfl⟩
instance : FldIs Tryd.prog 179 6 3 6 := ⟨_, _, Tryd.underlying179, rfl, rfl, rfl⟩
instance : SzIs Tryd.prog 179 7 := ⟨by kernel_rfl⟩
instance : ByIs Tryd.prog 179 56 := ⟨by kernel_rfl⟩
instance : BuIs Tryd.prog 179 [.pointer none, .int .i64 0, .int .i64 0, .int .i64 0, .int .i64 0, .bool false, .int .i64 0] [(0, 1), (1, 1), (2, 1), (3, 1), (4, 1), (5, 1), (6, 1)] := ⟨fun _ => by kernel_rfl⟩
instance : ZcIs Tryd.prog 179 [.pointer none, .int .i64 0, .int .i64 0, .int .i64 0, .int .i64 0, .bool false, .int .i64 0] := ⟨by kernel_rfl⟩
instance : UIs Tryd.prog 180 (.struct #[{ name := "D", type := 51, offset := 0, embedded := false, tag := "", pkgPath := "", byteOffset := 0 }, { name := "At", type := 3, offset := 1, embedded := false, tag := "", pkgPath := "", byteOffset := 8 }, { name := "N", type := 3, offset := 2, embedded := false, tag := "", pkgPath := "", byteOffset := 16 }, { name := "Version", type := 3, offset := 3, embedded := false, tag := "", pkgPath := "", byteOffset := 24 }, { name := "Used", type := 3, offset := 4, embedded := false, tag := "", pkgPath := "", byteOffset := 32 }, { name := "Dead", type := 4, offset := 5, embedded := false, tag := "", pkgPath := "", byteOffset := 40 }, { name := "Life", type := 3, offset := 6, embedded := false, tag := "", pkgPath := "", byteOffset := 48 }]) := ⟨Tryd.underlying180⟩
instance : AgIs Tryd.prog 180 := ⟨_, Tryd.underlying180, rfl⟩
instance : FldIs Tryd.prog 180 0 51 0 := ⟨_, _, Tryd.underlying180, rfl, rfl, rfl⟩
instance : FldIs Tryd.prog 180 1 3 1 := ⟨_, _, Tryd.underlying180, rfl, rfl, rfl⟩
instance : FldIs Tryd.prog 180 2 3 2 := ⟨_, _, Tryd.underlying180, rfl, rfl, rfl⟩
instance : FldIs Tryd.prog 180 3 3 3 := ⟨_, _, Tryd.underlying180, rfl, rfl, rfl⟩
instance : FldIs Tryd.prog 180 4 3 4 := ⟨_, _, Tryd.underlying180, rfl, rfl, rfl⟩
instance : FldIs Tryd.prog 180 5 4 5 := ⟨_, _, Tryd.underlying180, rfl, rfl, rfl⟩
instance : FldIs Tryd.prog 180 6 3 6 := ⟨_, _, Tryd.underlying180, rfl, rfl, rfl⟩
instance : SzIs Tryd.prog 180 7 := ⟨by kernel_rfl⟩
instance : ByIs Tryd.prog 180 56 := ⟨by kernel_rfl⟩
instance : BuIs Tryd.prog 180 [.pointer none, .int .i64 0, .int .i64 0, .int .i64 0, .int .i64 0, .bool false, .int .i64 0] [(0, 1), (1, 1), (2, 1), (3, 1), (4, 1), (5, 1), (6, 1)] := ⟨fun _ => by kernel_rfl⟩
instance : ZcIs Tryd.prog 180 [.pointer none, .int .i64 0, .int .i64 0, .int .i64 0, .int .i64 0, .bool false, .int .i64 0] := ⟨by kernel_rfl⟩
instance : UIs Tryd.prog 181 (.func #[112, 79, 3] #[] false) := ⟨Tryd.underlying181⟩
instance : ScIs Tryd.prog 181 := ⟨_, Tryd.underlying181, rfl⟩
instance : SzIs Tryd.prog 181 1 := ⟨by kernel_rfl⟩
instance : ByIs Tryd.prog 181 8 := ⟨by kernel_rfl⟩
instance : ZcIs Tryd.prog 181 [.nilFunc] := ⟨by kernel_rfl⟩
instance : UIs Tryd.prog 182 (.int .u32) := ⟨Tryd.underlying182⟩
instance : ScIs Tryd.prog 182 := ⟨_, Tryd.underlying182, rfl⟩
instance : SzIs Tryd.prog 182 1 := ⟨by kernel_rfl⟩
instance : ByIs Tryd.prog 182 4 := ⟨by kernel_rfl⟩
instance : ZcIs Tryd.prog 182 [.int .u32 0] := ⟨by kernel_rfl⟩
instance : UIs Tryd.prog 183 (.func #[9] #[182] false) := ⟨Tryd.underlying183⟩
instance : ScIs Tryd.prog 183 := ⟨_, Tryd.underlying183, rfl⟩
instance : SzIs Tryd.prog 183 1 := ⟨by kernel_rfl⟩
instance : ByIs Tryd.prog 183 8 := ⟨by kernel_rfl⟩
instance : ZcIs Tryd.prog 183 [.nilFunc] := ⟨by kernel_rfl⟩
instance : UIs Tryd.prog 185 (.func #[9] #[79, 79, 31] false) := ⟨Tryd.underlying185⟩
instance : ScIs Tryd.prog 185 := ⟨_, Tryd.underlying185, rfl⟩
instance : SzIs Tryd.prog 185 1 := ⟨by kernel_rfl⟩
instance : ByIs Tryd.prog 185 8 := ⟨by kernel_rfl⟩
instance : ZcIs Tryd.prog 185 [.nilFunc] := ⟨by kernel_rfl⟩
instance : UIs Tryd.prog 187 (.func #[9] #[79, 79, 3] false) := ⟨Tryd.underlying187⟩
instance : ScIs Tryd.prog 187 := ⟨_, Tryd.underlying187, rfl⟩
instance : SzIs Tryd.prog 187 1 := ⟨by kernel_rfl⟩
instance : ByIs Tryd.prog 187 8 := ⟨by kernel_rfl⟩
instance : ZcIs Tryd.prog 187 [.nilFunc] := ⟨by kernel_rfl⟩
instance : UIs Tryd.prog 188 (.func #[9, 3] #[79] false) := ⟨Tryd.underlying188⟩
instance : ScIs Tryd.prog 188 := ⟨_, Tryd.underlying188, rfl⟩
instance : SzIs Tryd.prog 188 1 := ⟨by kernel_rfl⟩
instance : ByIs Tryd.prog 188 8 := ⟨by kernel_rfl⟩
instance : ZcIs Tryd.prog 188 [.nilFunc] := ⟨by kernel_rfl⟩
instance : UIs Tryd.prog 189 (.pointer 5) := ⟨Tryd.underlying189⟩
instance : ScIs Tryd.prog 189 := ⟨_, Tryd.underlying189, rfl⟩
instance : SzIs Tryd.prog 189 1 := ⟨by kernel_rfl⟩
instance : ByIs Tryd.prog 189 8 := ⟨by kernel_rfl⟩
instance : ZcIs Tryd.prog 189 [.pointer none] := ⟨by kernel_rfl⟩
instance : UIs Tryd.prog 190 (.func #[51, 3, 3, 79] #[4] false) := ⟨Tryd.underlying190⟩
instance : ScIs Tryd.prog 190 := ⟨_, Tryd.underlying190, rfl⟩
instance : SzIs Tryd.prog 190 1 := ⟨by kernel_rfl⟩
instance : ByIs Tryd.prog 190 8 := ⟨by kernel_rfl⟩
instance : ZcIs Tryd.prog 190 [.nilFunc] := ⟨by kernel_rfl⟩
instance : UIs Tryd.prog 191 (.struct #[{ name := "I", type := 3, offset := 0, embedded := false, tag := "", pkgPath := "", byteOffset := 0 }, { name := "Sector", type := 9, offset := 1, embedded := false, tag := "", pkgPath := "", byteOffset := 8 }]) := ⟨Tryd.underlying191⟩
instance : AgIs Tryd.prog 191 := ⟨_, Tryd.underlying191, rfl⟩
instance : FldIs Tryd.prog 191 0 3 0 := ⟨_, _, Tryd.underlying191, rfl, rfl, rfl⟩
instance : FldIs Tryd.prog 191 1 9 1 := ⟨_, _, Tryd.underlying191, rfl, rfl, rfl⟩
instance : SzIs Tryd.prog 191 2 := ⟨by kernel_rfl⟩
instance : ByIs Tryd.prog 191 24 := ⟨by kernel_rfl⟩
instance : BuIs Tryd.prog 191 [.int .i64 0, strV []] [(0, 1), (1, 1)] := ⟨fun _ => by kernel_rfl⟩
instance : ZcIs Tryd.prog 191 [.int .i64 0, strV []] := ⟨by kernel_rfl⟩
instance : UIs Tryd.prog 192 (.struct #[{ name := "I", type := 3, offset := 0, embedded := false, tag := "", pkgPath := "", byteOffset := 0 }, { name := "Sector", type := 9, offset := 1, embedded := false, tag := "", pkgPath := "", byteOffset := 8 }]) := ⟨Tryd.underlying192⟩
instance : AgIs Tryd.prog 192 := ⟨_, Tryd.underlying192, rfl⟩
instance : FldIs Tryd.prog 192 0 3 0 := ⟨_, _, Tryd.underlying192, rfl, rfl, rfl⟩
instance : FldIs Tryd.prog 192 1 9 1 := ⟨_, _, Tryd.underlying192, rfl, rfl, rfl⟩
instance : SzIs Tryd.prog 192 2 := ⟨by kernel_rfl⟩
instance : ByIs Tryd.prog 192 24 := ⟨by kernel_rfl⟩
instance : BuIs Tryd.prog 192 [.int .i64 0, strV []] [(0, 1), (1, 1)] := ⟨fun _ => by kernel_rfl⟩
instance : ZcIs Tryd.prog 192 [.int .i64 0, strV []] := ⟨by kernel_rfl⟩
instance : UIs Tryd.prog 193 (.func #[3] #[9, 4] false) := ⟨Tryd.underlying193⟩
instance : ScIs Tryd.prog 193 := ⟨_, Tryd.underlying193, rfl⟩
instance : SzIs Tryd.prog 193 1 := ⟨by kernel_rfl⟩
instance : ByIs Tryd.prog 193 8 := ⟨by kernel_rfl⟩
instance : ZcIs Tryd.prog 193 [.nilFunc] := ⟨by kernel_rfl⟩
instance : UIs Tryd.prog 194 (.func #[51, 3, 3, 3] #[4] false) := ⟨Tryd.underlying194⟩
instance : ScIs Tryd.prog 194 := ⟨_, Tryd.underlying194, rfl⟩
instance : SzIs Tryd.prog 194 1 := ⟨by kernel_rfl⟩
instance : ByIs Tryd.prog 194 8 := ⟨by kernel_rfl⟩
instance : ZcIs Tryd.prog 194 [.nilFunc] := ⟨by kernel_rfl⟩
instance : UIs Tryd.prog 195 (.func #[51, 3, 3, 3, 3] #[9, 3, 4] false) := ⟨Tryd.underlying195⟩
instance : ScIs Tryd.prog 195 := ⟨_, Tryd.underlying195, rfl⟩
instance : SzIs Tryd.prog 195 1 := ⟨by kernel_rfl⟩
instance : ByIs Tryd.prog 195 8 := ⟨by kernel_rfl⟩
instance : ZcIs Tryd.prog 195 [.nilFunc] := ⟨by kernel_rfl⟩
instance : UIs Tryd.prog 197 (.func #[3, 3] #[79, 3] false) := ⟨Tryd.underlying197⟩
instance : ScIs Tryd.prog 197 := ⟨_, Tryd.underlying197, rfl⟩
instance : SzIs Tryd.prog 197 1 := ⟨by kernel_rfl⟩
instance : ByIs Tryd.prog 197 8 := ⟨by kernel_rfl⟩
instance : ZcIs Tryd.prog 197 [.nilFunc] := ⟨by kernel_rfl⟩
instance : UIs Tryd.prog 198 (.func #[182, 9] #[182] false) := ⟨Tryd.underlying198⟩
instance : ScIs Tryd.prog 198 := ⟨_, Tryd.underlying198, rfl⟩
instance : SzIs Tryd.prog 198 1 := ⟨by kernel_rfl⟩
instance : ByIs Tryd.prog 198 8 := ⟨by kernel_rfl⟩
instance : ZcIs Tryd.prog 198 [.nilFunc] := ⟨by kernel_rfl⟩
instance : UIs Tryd.prog 199 (.func #[9] #[79] false) := ⟨Tryd.underlying199⟩
instance : ScIs Tryd.prog 199 := ⟨_, Tryd.underlying199, rfl⟩
instance : SzIs Tryd.prog 199 1 := ⟨by kernel_rfl⟩
instance : ByIs Tryd.prog 199 8 := ⟨by kernel_rfl⟩
instance : ZcIs Tryd.prog 199 [.nilFunc] := ⟨by kernel_rfl⟩
instance : UIs Tryd.prog 200 (.unsafePointer) := ⟨Tryd.underlying200⟩
instance : ScIs Tryd.prog 200 := ⟨_, Tryd.underlying200, rfl⟩
instance : SzIs Tryd.prog 200 1 := ⟨by kernel_rfl⟩
instance : ByIs Tryd.prog 200 8 := ⟨by kernel_rfl⟩
instance : ZcIs Tryd.prog 200 [.pointer none] := ⟨by kernel_rfl⟩
instance : UIs Tryd.prog 201 (.func #[200] #[200] false) := ⟨Tryd.underlying201⟩
instance : ScIs Tryd.prog 201 := ⟨_, Tryd.underlying201, rfl⟩
instance : SzIs Tryd.prog 201 1 := ⟨by kernel_rfl⟩
instance : ByIs Tryd.prog 201 8 := ⟨by kernel_rfl⟩
instance : ZcIs Tryd.prog 201 [.nilFunc] := ⟨by kernel_rfl⟩
instance : UIs Tryd.prog 202 (.func #[51, 3, 3, 3] #[9, 4] false) := ⟨Tryd.underlying202⟩
instance : ScIs Tryd.prog 202 := ⟨_, Tryd.underlying202, rfl⟩
instance : SzIs Tryd.prog 202 1 := ⟨by kernel_rfl⟩
instance : ByIs Tryd.prog 202 8 := ⟨by kernel_rfl⟩
instance : ZcIs Tryd.prog 202 [.nilFunc] := ⟨by kernel_rfl⟩
instance : UIs Tryd.prog 203 (.array 16 182) := ⟨Tryd.underlying203⟩
instance : AgIs Tryd.prog 203 := ⟨_, Tryd.underlying203, rfl⟩
instance : SzIs Tryd.prog 203 16 := ⟨by kernel_rfl⟩
instance : ByIs Tryd.prog 203 64 := ⟨by kernel_rfl⟩
instance : ZcIs Tryd.prog 203 [.int .u32 0, .int .u32 0, .int .u32 0, .int .u32 0, .int .u32 0, .int .u32 0, .int .u32 0, .int .u32 0, .int .u32 0, .int .u32 0, .int .u32 0, .int .u32 0, .int .u32 0, .int .u32 0, .int .u32 0, .int .u32 0] := ⟨by kernel_rfl⟩
instance : UIs Tryd.prog 204 (.pointer 218) := ⟨Tryd.underlying204⟩
instance : ScIs Tryd.prog 204 := ⟨_, Tryd.underlying204, rfl⟩
instance : SzIs Tryd.prog 204 1 := ⟨by kernel_rfl⟩
instance : ByIs Tryd.prog 204 8 := ⟨by kernel_rfl⟩
instance : ZcIs Tryd.prog 204 [.pointer none] := ⟨by kernel_rfl⟩
instance : UIs Tryd.prog 205 (.struct #[{ name := "_interface", type := 17, offset := 0, embedded := false, tag := "", pkgPath := "runtime", byteOffset := 0 }, { name := "concrete", type := 17, offset := 1, embedded := false, tag := "", pkgPath := "runtime", byteOffset := 8 }, { name := "asserted", type := 17, offset := 2, embedded := false, tag := "", pkgPath := "runtime", byteOffset := 16 }, { name := "missingMethod", type := 9, offset := 3, embedded := false, tag := "", pkgPath := "runtime", byteOffset := 24 }]) := ⟨Tryd.underlying205⟩
instance : AgIs Tryd.prog 205 := ⟨_, Tryd.underlying205, rfl⟩
instance : FldIs Tryd.prog 205 0 17 0 := ⟨_, _, Tryd.underlying205, rfl, rfl, rfl⟩
instance : FldIs Tryd.prog 205 1 17 1 := ⟨_, _, Tryd.underlying205, rfl, rfl, rfl⟩
instance : FldIs Tryd.prog 205 2 17 2 := ⟨_, _, Tryd.underlying205, rfl, rfl, rfl⟩
instance : FldIs Tryd.prog 205 3 9 3 := ⟨_, _, Tryd.underlying205, rfl, rfl, rfl⟩
instance : SzIs Tryd.prog 205 4 := ⟨by kernel_rfl⟩
instance : ByIs Tryd.prog 205 40 := ⟨by kernel_rfl⟩
instance : BuIs Tryd.prog 205 [.pointer none, .pointer none, .pointer none, strV []] [(0, 1), (1, 1), (2, 1), (3, 1)] := ⟨fun _ => by kernel_rfl⟩
instance : ZcIs Tryd.prog 205 [.pointer none, .pointer none, .pointer none, strV []] := ⟨by kernel_rfl⟩
instance : UIs Tryd.prog 206 (.struct #[{ name := "_interface", type := 17, offset := 0, embedded := false, tag := "", pkgPath := "runtime", byteOffset := 0 }, { name := "concrete", type := 17, offset := 1, embedded := false, tag := "", pkgPath := "runtime", byteOffset := 8 }, { name := "asserted", type := 17, offset := 2, embedded := false, tag := "", pkgPath := "runtime", byteOffset := 16 }, { name := "missingMethod", type := 9, offset := 3, embedded := false, tag := "", pkgPath := "runtime", byteOffset := 24 }]) := ⟨Tryd.underlying206⟩
instance : AgIs Tryd.prog 206 := ⟨_, Tryd.underlying206, rfl⟩
instance : FldIs Tryd.prog 206 0 17 0 := ⟨_, _, Tryd.underlying206, rfl, rfl, rfl⟩
instance : FldIs Tryd.prog 206 1 17 1 := ⟨_, _, Tryd.underlying206, rfl, rfl, rfl⟩
instance : FldIs Tryd.prog 206 2 17 2 := ⟨_, _, Tryd.underlying206, rfl, rfl, rfl⟩
instance : FldIs Tryd.prog 206 3 9 3 := ⟨_, _, Tryd.underlying206, rfl, rfl, rfl⟩
instance : SzIs Tryd.prog 206 4 := ⟨by kernel_rfl⟩
instance : ByIs Tryd.prog 206 40 := ⟨by kernel_rfl⟩
instance : BuIs Tryd.prog 206 [.pointer none, .pointer none, .pointer none, strV []] [(0, 1), (1, 1), (2, 1), (3, 1)] := ⟨fun _ => by kernel_rfl⟩
instance : ZcIs Tryd.prog 206 [.pointer none, .pointer none, .pointer none, strV []] := ⟨by kernel_rfl⟩
instance : UIs Tryd.prog 207 (.array 0 16) := ⟨Tryd.underlying207⟩
instance : AgIs Tryd.prog 207 := ⟨_, Tryd.underlying207, rfl⟩
instance : SzIs Tryd.prog 207 0 := ⟨by kernel_rfl⟩
instance : ByIs Tryd.prog 207 0 := ⟨by kernel_rfl⟩
instance : ZcIs Tryd.prog 207 [] := ⟨by kernel_rfl⟩
instance : UIs Tryd.prog 208 (.struct #[{ name := "_", type := 207, offset := 0, embedded := false, tag := "", pkgPath := "runtime", byteOffset := 0 }]) := ⟨Tryd.underlying208⟩
instance : AgIs Tryd.prog 208 := ⟨_, Tryd.underlying208, rfl⟩
instance : FldIs Tryd.prog 208 0 207 0 := ⟨_, _, Tryd.underlying208, rfl, rfl, rfl⟩
instance : SzIs Tryd.prog 208 0 := ⟨by kernel_rfl⟩
instance : ByIs Tryd.prog 208 0 := ⟨by kernel_rfl⟩
instance : BuIs Tryd.prog 208 [] [(0, 0)] := ⟨fun _ => by kernel_rfl⟩
instance : ZcIs Tryd.prog 208 [] := ⟨by kernel_rfl⟩
instance : UIs Tryd.prog 209 (.struct #[{ name := "_", type := 207, offset := 0, embedded := false, tag := "", pkgPath := "runtime", byteOffset := 0 }]) := ⟨Tryd.underlying209⟩
instance : AgIs Tryd.prog 209 := ⟨_, Tryd.underlying209, rfl⟩
instance : FldIs Tryd.prog 209 0 207 0 := ⟨_, _, Tryd.underlying209, rfl, rfl, rfl⟩
instance : SzIs Tryd.prog 209 0 := ⟨by kernel_rfl⟩
instance : ByIs Tryd.prog 209 0 := ⟨by kernel_rfl⟩
instance : BuIs Tryd.prog 209 [] [(0, 0)] := ⟨fun _ => by kernel_rfl⟩
instance : ZcIs Tryd.prog 209 [] := ⟨by kernel_rfl⟩
instance : UIs Tryd.prog 210 (.int .u8) := ⟨Tryd.underlying210⟩
instance : ScIs Tryd.prog 210 := ⟨_, Tryd.underlying210, rfl⟩
instance : SzIs Tryd.prog 210 1 := ⟨by kernel_rfl⟩
instance : ByIs Tryd.prog 210 1 := ⟨by kernel_rfl⟩
instance : ZcIs Tryd.prog 210 [.int .u8 0] := ⟨by kernel_rfl⟩
instance : UIs Tryd.prog 211 (.int .u8) := ⟨Tryd.underlying211⟩
instance : ScIs Tryd.prog 211 := ⟨_, Tryd.underlying211, rfl⟩
instance : SzIs Tryd.prog 211 1 := ⟨by kernel_rfl⟩
instance : ByIs Tryd.prog 211 1 := ⟨by kernel_rfl⟩
instance : ZcIs Tryd.prog 211 [.int .u8 0] := ⟨by kernel_rfl⟩
instance : UIs Tryd.prog 212 (.func #[200, 200] #[4] false) := ⟨Tryd.underlying212⟩
instance : ScIs Tryd.prog 212 := ⟨_, Tryd.underlying212, rfl⟩
instance : SzIs Tryd.prog 212 1 := ⟨by kernel_rfl⟩
instance : ByIs Tryd.prog 212 8 := ⟨by kernel_rfl⟩
instance : ZcIs Tryd.prog 212 [.nilFunc] := ⟨by kernel_rfl⟩
instance : UIs Tryd.prog 213 (.int .i32) := ⟨Tryd.underlying213⟩
instance : ScIs Tryd.prog 213 := ⟨_, Tryd.underlying213, rfl⟩
instance : SzIs Tryd.prog 213 1 := ⟨by kernel_rfl⟩
instance : ByIs Tryd.prog 213 4 := ⟨by kernel_rfl⟩
instance : ZcIs Tryd.prog 213 [.int .i32 0] := ⟨by kernel_rfl⟩
instance : UIs Tryd.prog 214 (.int .i32) := ⟨Tryd.underlying214⟩
instance : ScIs Tryd.prog 214 := ⟨_, Tryd.underlying214, rfl⟩
instance : SzIs Tryd.prog 214 1 := ⟨by kernel_rfl⟩
instance : ByIs Tryd.prog 214 4 := ⟨by kernel_rfl⟩
instance : ZcIs Tryd.prog 214 [.int .i32 0] := ⟨by kernel_rfl⟩
instance : UIs Tryd.prog 215 (.struct #[{ name := "Size_", type := 12, offset := 0, embedded := false, tag := "", pkgPath := "", byteOffset := 0 }, { name := "PtrBytes", type := 12, offset := 1, embedded := false, tag := "", pkgPath := "", byteOffset := 8 }, { name := "Hash", type := 182, offset := 2, embedded := false, tag := "", pkgPath := "", byteOffset := 16 }, { name := "TFlag", type := 210, offset := 3, embedded := false, tag := "", pkgPath := "", byteOffset := 20 }, { name := "Align_", type := 5, offset := 4, embedded := false, tag := "", pkgPath := "", byteOffset := 21 }, { name := "FieldAlign_", type := 5, offset := 5, embedded := false, tag := "", pkgPath := "", byteOffset := 22 }, { name := "Kind_", type := 211, offset := 6, embedded := false, tag := "", pkgPath := "", byteOffset := 23 }, { name := "Equal", type := 212, offset := 7, embedded := false, tag := "", pkgPath := "", byteOffset := 24 }, { name := "GCData", type := 189, offset := 8, embedded := false, tag := "", pkgPath := "", byteOffset := 32 }, { name := "Str", type := 213, offset := 9, embedded := false, tag := "", pkgPath := "", byteOffset := 40 }, { name := "PtrToThis", type := 214, offset := 10, embedded := false, tag := "", pkgPath := "", byteOffset := 44 }]) := ⟨Tryd.underlying215⟩
instance : AgIs Tryd.prog 215 := ⟨_, Tryd.underlying215, rfl⟩
instance : FldIs Tryd.prog 215 0 12 0 := ⟨_, _, Tryd.underlying215, rfl, rfl, rfl⟩
instance : FldIs Tryd.prog 215 1 12 1 := ⟨_, _, Tryd.underlying215, rfl, rfl, rfl⟩
instance : FldIs Tryd.prog 215 2 182 2 := ⟨_, _, Tryd.underlying215, rfl, rfl, rfl⟩
instance : FldIs Tryd.prog 215 3 210 3 := ⟨_, _, Tryd.underlying215, rfl, rfl, rfl⟩
instance : FldIs Tryd.prog 215 4 5 4 := ⟨_, _, Tryd.underlying215, rfl, rfl, rfl⟩
instance : FldIs Tryd.prog 215 5 5 5 := ⟨_, _, Tryd.underlying215, rfl, rfl, rfl⟩
instance : FldIs Tryd.prog 215 6 211 6 := ⟨_, _, Tryd.underlying215, rfl, rfl, rfl⟩
instance : FldIs Tryd.prog 215 7 212 7 := ⟨_, _, Tryd.underlying215, rfl, rfl, rfl⟩
instance : FldIs Tryd.prog 215 8 189 8 := ⟨_, _, Tryd.underlying215, rfl, rfl, rfl⟩
instance : FldIs Tryd.prog 215 9 213 9 := ⟨_, _, Tryd.underlying215, rfl, rfl, rfl⟩
instance : FldIs Tryd.prog 215 10 214 10 := ⟨_, _, Tryd.underlying215, rfl, rfl, rfl⟩
instance : SzIs Tryd.prog 215 11 := ⟨by kernel_rfl⟩
instance : ByIs Tryd.prog 215 48 := ⟨by kernel_rfl⟩
instance : BuIs Tryd.prog 215 [.int .u64 0, .int .u64 0, .int .u32 0, .int .u8 0, .int .u8 0, .int .u8 0, .int .u8 0, .nilFunc, .pointer none, .int .i32 0, .int .i32 0] [(0, 1), (1, 1), (2, 1), (3, 1), (4, 1), (5, 1), (6, 1), (7, 1), (8, 1), (9, 1), (10, 1)] := ⟨fun _ => by kernel_rfl⟩
instance : ZcIs Tryd.prog 215 [.int .u64 0, .int .u64 0, .int .u32 0, .int .u8 0, .int .u8 0, .int .u8 0, .int .u8 0, .nilFunc, .pointer none, .int .i32 0, .int .i32 0] := ⟨by kernel_rfl⟩
instance : UIs Tryd.prog 216 (.struct #[{ name := "Size_", type := 12, offset := 0, embedded := false, tag := "", pkgPath := "", byteOffset := 0 }, { name := "PtrBytes", type := 12, offset := 1, embedded := false, tag := "", pkgPath := "", byteOffset := 8 }, { name := "Hash", type := 182, offset := 2, embedded := false, tag := "", pkgPath := "", byteOffset := 16 }, { name := "TFlag", type := 210, offset := 3, embedded := false, tag := "", pkgPath := "", byteOffset := 20 }, { name := "Align_", type := 5, offset := 4, embedded := false, tag := "", pkgPath := "", byteOffset := 21 }, { name := "FieldAlign_", type := 5, offset := 5, embedded := false, tag := "", pkgPath := "", byteOffset := 22 }, { name := "Kind_", type := 211, offset := 6, embedded := false, tag := "", pkgPath := "", byteOffset := 23 }, { name := "Equal", type := 212, offset := 7, embedded := false, tag := "", pkgPath := "", byteOffset := 24 }, { name := "GCData", type := 189, offset := 8, embedded := false, tag := "", pkgPath := "", byteOffset := 32 }, { name := "Str", type := 213, offset := 9, embedded := false, tag := "", pkgPath := "", byteOffset := 40 }, { name := "PtrToThis", type := 214, offset := 10, embedded := false, tag := "", pkgPath := "", byteOffset := 44 }]) := ⟨Tryd.underlying216⟩
instance : AgIs Tryd.prog 216 := ⟨_, Tryd.underlying216, rfl⟩
instance : FldIs Tryd.prog 216 0 12 0 := ⟨_, _, Tryd.underlying216, rfl, rfl, rfl⟩
instance : FldIs Tryd.prog 216 1 12 1 := ⟨_, _, Tryd.underlying216, rfl, rfl, rfl⟩
instance : FldIs Tryd.prog 216 2 182 2 := ⟨_, _, Tryd.underlying216, rfl, rfl, rfl⟩
instance : FldIs Tryd.prog 216 3 210 3 := ⟨_, _, Tryd.underlying216, rfl, rfl, rfl⟩
instance : FldIs Tryd.prog 216 4 5 4 := ⟨_, _, Tryd.underlying216, rfl, rfl, rfl⟩
instance : FldIs Tryd.prog 216 5 5 5 := ⟨_, _, Tryd.underlying216, rfl, rfl, rfl⟩
instance : FldIs Tryd.prog 216 6 211 6 := ⟨_, _, Tryd.underlying216, rfl, rfl, rfl⟩
instance : FldIs Tryd.prog 216 7 212 7 := ⟨_, _, Tryd.underlying216, rfl, rfl, rfl⟩
instance : FldIs Tryd.prog 216 8 189 8 := ⟨_, _, Tryd.underlying216, rfl, rfl, rfl⟩
instance : FldIs Tryd.prog 216 9 213 9 := ⟨_, _, Tryd.underlying216, rfl, rfl, rfl⟩
instance : FldIs Tryd.prog 216 10 214 10 := ⟨_, _, Tryd.underlying216, rfl, rfl, rfl⟩
instance : SzIs Tryd.prog 216 11 := ⟨by kernel_rfl⟩
instance : ByIs Tryd.prog 216 48 := ⟨by kernel_rfl⟩
instance : BuIs Tryd.prog 216 [.int .u64 0, .int .u64 0, .int .u32 0, .int .u8 0, .int .u8 0, .int .u8 0, .int .u8 0, .nilFunc, .pointer none, .int .i32 0, .int .i32 0] [(0, 1), (1, 1), (2, 1), (3, 1), (4, 1), (5, 1), (6, 1), (7, 1), (8, 1), (9, 1), (10, 1)] := ⟨fun _ => by kernel_rfl⟩
instance : ZcIs Tryd.prog 216 [.int .u64 0, .int .u64 0, .int .u32 0, .int .u8 0, .int .u8 0, .int .u8 0, .int .u8 0, .nilFunc, .pointer none, .int .i32 0, .int .i32 0] := ⟨by kernel_rfl⟩
instance : UIs Tryd.prog 217 (.struct #[{ name := "s", type := 9, offset := 0, embedded := false, tag := "", pkgPath := "errors", byteOffset := 0 }]) := ⟨Tryd.underlying217⟩
instance : AgIs Tryd.prog 217 := ⟨_, Tryd.underlying217, rfl⟩
instance : FldIs Tryd.prog 217 0 9 0 := ⟨_, _, Tryd.underlying217, rfl, rfl, rfl⟩
instance : SzIs Tryd.prog 217 1 := ⟨by kernel_rfl⟩
instance : ByIs Tryd.prog 217 16 := ⟨by kernel_rfl⟩
instance : BuIs Tryd.prog 217 [strV []] [(0, 1)] := ⟨fun _ => by kernel_rfl⟩
instance : ZcIs Tryd.prog 217 [strV []] := ⟨by kernel_rfl⟩
instance : UIs Tryd.prog 218 (.struct #[{ name := "s", type := 9, offset := 0, embedded := false, tag := "", pkgPath := "errors", byteOffset := 0 }]) := ⟨Tryd.underlying218⟩
instance : AgIs Tryd.prog 218 := ⟨_, Tryd.underlying218, rfl⟩
instance : FldIs Tryd.prog 218 0 9 0 := ⟨_, _, Tryd.underlying218, rfl, rfl, rfl⟩
instance : SzIs Tryd.prog 218 1 := ⟨by kernel_rfl⟩
instance : ByIs Tryd.prog 218 16 := ⟨by kernel_rfl⟩
instance : BuIs Tryd.prog 218 [strV []] [(0, 1)] := ⟨fun _ => by kernel_rfl⟩
instance : ZcIs Tryd.prog 218 [strV []] := ⟨by kernel_rfl⟩
instance : FnIs Tryd.prog 3 := ⟨by kernel_rfl⟩
instance : FnIs Tryd.prog 4 := ⟨by kernel_rfl⟩
instance : FnIs Tryd.prog 5 := ⟨by kernel_rfl⟩
instance : FnIs Tryd.prog 6 := ⟨by kernel_rfl⟩
instance : FnIs Tryd.prog 7 := ⟨by kernel_rfl⟩
instance : FnIs Tryd.prog 8 := ⟨by kernel_rfl⟩
instance : FnIs Tryd.prog 9 := ⟨by kernel_rfl⟩
instance : FnIs Tryd.prog 10 := ⟨by kernel_rfl⟩
instance : FnIs Tryd.prog 11 := ⟨by kernel_rfl⟩
instance : FnIs Tryd.prog 12 := ⟨by kernel_rfl⟩
instance : FnIs Tryd.prog 13 := ⟨by kernel_rfl⟩
instance : FnIs Tryd.prog 14 := ⟨by kernel_rfl⟩
instance : FnIs Tryd.prog 15 := ⟨by kernel_rfl⟩
instance : FnIs Tryd.prog 16 := ⟨by kernel_rfl⟩
instance : FnIs Tryd.prog 17 := ⟨by kernel_rfl⟩
instance : FnIs Tryd.prog 18 := ⟨by kernel_rfl⟩
instance : FnIs Tryd.prog 19 := ⟨by kernel_rfl⟩
instance : FnIs Tryd.prog 20 := ⟨by kernel_rfl⟩
instance : FnIs Tryd.prog 21 := ⟨by kernel_rfl⟩
instance : FnIs Tryd.prog 22 := ⟨by kernel_rfl⟩
instance : FnIs Tryd.prog 23 := ⟨by kernel_rfl⟩
instance : FnIs Tryd.prog 24 := ⟨by kernel_rfl⟩
instance : FnIs Tryd.prog 25 := ⟨by kernel_rfl⟩
instance : FnIs Tryd.prog 26 := ⟨by kernel_rfl⟩
instance : FnIs Tryd.prog 27 := ⟨by kernel_rfl⟩
instance : FnIs Tryd.prog 28 := ⟨by kernel_rfl⟩
instance : FnIs Tryd.prog 29 := ⟨by kernel_rfl⟩
instance : FnIs Tryd.prog 30 := ⟨by kernel_rfl⟩
instance : FnIs Tryd.prog 31 := ⟨by kernel_rfl⟩
instance : FnIs Tryd.prog 32 := ⟨by kernel_rfl⟩
instance : FnIs Tryd.prog 33 := ⟨by kernel_rfl⟩
instance : FnIs Tryd.prog 34 := ⟨by kernel_rfl⟩
instance : FnIs Tryd.prog 35 := ⟨by kernel_rfl⟩
instance : FnIs Tryd.prog 36 := ⟨by kernel_rfl⟩
instance : FnIs Tryd.prog 37 := ⟨by kernel_rfl⟩
instance : FnIs Tryd.prog 38 := ⟨by kernel_rfl⟩
instance : FnIs Tryd.prog 39 := ⟨by kernel_rfl⟩
instance : FnIs Tryd.prog 40 := ⟨by kernel_rfl⟩
instance : FnIs Tryd.prog 41 := ⟨by kernel_rfl⟩
instance : FnIs Tryd.prog 42 := ⟨by kernel_rfl⟩
instance : FnIs Tryd.prog 43 := ⟨by kernel_rfl⟩
instance : FnIs Tryd.prog 44 := ⟨by kernel_rfl⟩
instance : FnIs Tryd.prog 45 := ⟨by kernel_rfl⟩
instance : FnIs Tryd.prog 46 := ⟨by kernel_rfl⟩
instance : FnIs Tryd.prog 47 := ⟨by kernel_rfl⟩
instance : FnIs Tryd.prog 48 := ⟨by kernel_rfl⟩
instance : FnIs Tryd.prog 49 := ⟨by kernel_rfl⟩
instance : FnIs Tryd.prog 50 := ⟨by kernel_rfl⟩
instance : FnIs Tryd.prog 51 := ⟨by kernel_rfl⟩
instance : FnIs Tryd.prog 52 := ⟨by kernel_rfl⟩
instance : FnIs Tryd.prog 53 := ⟨by kernel_rfl⟩
instance : FnIs Tryd.prog 54 := ⟨by kernel_rfl⟩
instance : FnIs Tryd.prog 55 := ⟨by kernel_rfl⟩
instance : FnIs Tryd.prog 56 := ⟨by kernel_rfl⟩
instance : FnIs Tryd.prog 57 := ⟨by kernel_rfl⟩
instance : FnIs Tryd.prog 58 := ⟨by kernel_rfl⟩
instance : FnIs Tryd.prog 59 := ⟨by kernel_rfl⟩
instance : FnIs Tryd.prog 60 := ⟨by kernel_rfl⟩
instance : FnIs Tryd.prog 61 := ⟨by kernel_rfl⟩
instance : FnIs Tryd.prog 62 := ⟨by kernel_rfl⟩
instance : FnIs Tryd.prog 63 := ⟨by kernel_rfl⟩
instance : FnIs Tryd.prog 64 := ⟨by kernel_rfl⟩
instance : FnIs Tryd.prog 65 := ⟨by kernel_rfl⟩
instance : FnIs Tryd.prog 66 := ⟨by kernel_rfl⟩
instance : FnIs Tryd.prog 67 := ⟨by kernel_rfl⟩
instance : FnIs Tryd.prog 68 := ⟨by kernel_rfl⟩
instance : FnIs Tryd.prog 69 := ⟨by kernel_rfl⟩
instance : FnIs Tryd.prog 70 := ⟨by kernel_rfl⟩
instance : FnIs Tryd.prog 71 := ⟨by kernel_rfl⟩
instance : FnIs Tryd.prog 72 := ⟨by kernel_rfl⟩
instance : FnIs Tryd.prog 73 := ⟨by kernel_rfl⟩
instance : FnIs Tryd.prog 74 := ⟨by kernel_rfl⟩
instance : FnIs Tryd.prog 75 := ⟨by kernel_rfl⟩
instance : FnIs Tryd.prog 76 := ⟨by kernel_rfl⟩
instance : FnIs Tryd.prog 77 := ⟨by kernel_rfl⟩
instance : FnIs Tryd.prog 78 := ⟨by kernel_rfl⟩
instance : FnIs Tryd.prog 79 := ⟨by kernel_rfl⟩
instance : FnIs Tryd.prog 80 := ⟨by kernel_rfl⟩
instance : FnIs Tryd.prog 81 := ⟨by kernel_rfl⟩
instance : FnIs Tryd.prog 82 := ⟨by kernel_rfl⟩
instance : FnIs Tryd.prog 83 := ⟨by kernel_rfl⟩
instance : FnIs Tryd.prog 84 := ⟨by kernel_rfl⟩
instance : FnIs Tryd.prog 85 := ⟨by kernel_rfl⟩
instance : FnIs Tryd.prog 86 := ⟨by kernel_rfl⟩
instance : FnIs Tryd.prog 87 := ⟨by kernel_rfl⟩
instance : FnIs Tryd.prog 88 := ⟨by kernel_rfl⟩
instance : FnIs Tryd.prog 89 := ⟨by kernel_rfl⟩
instance : FnIs Tryd.prog 90 := ⟨by kernel_rfl⟩
instance : FnIs Tryd.prog 91 := ⟨by kernel_rfl⟩
instance : FnIs Tryd.prog 92 := ⟨by kernel_rfl⟩
instance : FnIs Tryd.prog 93 := ⟨by kernel_rfl⟩
instance : FnIs Tryd.prog 94 := ⟨by kernel_rfl⟩
instance : FnIs Tryd.prog 95 := ⟨by kernel_rfl⟩
instance : FnIs Tryd.prog 96 := ⟨by kernel_rfl⟩
instance : FnIs Tryd.prog 97 := ⟨by kernel_rfl⟩
instance : FnIs Tryd.prog 98 := ⟨by kernel_rfl⟩
instance : FnIs Tryd.prog 99 := ⟨by kernel_rfl⟩
instance : FnIs Tryd.prog 100 := ⟨by kernel_rfl⟩
instance : FnIs Tryd.prog 101 := ⟨by kernel_rfl⟩
instance : FnIs Tryd.prog 102 := ⟨by kernel_rfl⟩
instance : FnIs Tryd.prog 103 := ⟨by kernel_rfl⟩
instance : FnIs Tryd.prog 104 := ⟨by kernel_rfl⟩
instance : FnIs Tryd.prog 105 := ⟨by kernel_rfl⟩
instance : FnIs Tryd.prog 106 := ⟨by kernel_rfl⟩
instance : FnIs Tryd.prog 107 := ⟨by kernel_rfl⟩
instance : FnIs Tryd.prog 108 := ⟨by kernel_rfl⟩
instance : FnIs Tryd.prog 109 := ⟨by kernel_rfl⟩
instance : FnIs Tryd.prog 110 := ⟨by kernel_rfl⟩
instance : FnIs Tryd.prog 111 := ⟨by kernel_rfl⟩
instance : FnIs Tryd.prog 112 := ⟨by kernel_rfl⟩
instance : FnIs Tryd.prog 113 := ⟨by kernel_rfl⟩
instance : FnIs Tryd.prog 114 := ⟨by kernel_rfl⟩
instance : FnIs Tryd.prog 115 := ⟨by kernel_rfl⟩
instance : FnIs Tryd.prog 116 := ⟨by kernel_rfl⟩
instance : FnIs Tryd.prog 117 := ⟨by kernel_rfl⟩
instance : FnIs Tryd.prog 118 := ⟨by kernel_rfl⟩
instance : FnIs Tryd.prog 119 := ⟨by kernel_rfl⟩
instance : FnIs Tryd.prog 120 := ⟨by kernel_rfl⟩
instance : FnIs Tryd.prog 121 := ⟨by kernel_rfl⟩
instance : FnIs Tryd.prog 122 := ⟨by kernel_rfl⟩
instance : FnIs Tryd.prog 123 := ⟨by kernel_rfl⟩
instance : FnIs Tryd.prog 124 := ⟨by kernel_rfl⟩
instance : FnIs Tryd.prog 125 := ⟨by kernel_rfl⟩
instance : FnIs Tryd.prog 126 := ⟨by kernel_rfl⟩
instance : FnIs Tryd.prog 127 := ⟨by kernel_rfl⟩
instance : FnIs Tryd.prog 128 := ⟨by kernel_rfl⟩
instance : FnIs Tryd.prog 129 := ⟨by kernel_rfl⟩
instance : FnIs Tryd.prog 130 := ⟨by kernel_rfl⟩
instance : FnIs Tryd.prog 132 := ⟨by kernel_rfl⟩
instance : FnIs Tryd.prog 133 := ⟨by kernel_rfl⟩
end Go.Proofs.YteklldbfdmaafaaDoor
/-
  The disk in memory; the small methods of the disk.
-/
namespace Go.Proofs.YteklldbfdmaafaaDoor
open Go Go.RowKit
/-- so many package-level variables: the first blocks -/
def gB : Nat := 38
/-- block b is the map that tells of each sector the number of its last write -/
def LastAt (w : World) (b : Nat) (u : List (Nat × List UInt8)) : Prop :=
  ∃ M : DataW Unit, w.ownsMap Tryd.prog 3 (plainElem Tryd.prog 3) b u.length M ∧
    ∀ i : Nat, Maps.has M (.int .i64 i) = (lastIx u i).isSome ∧ M.atKey (.int .i64 i) (.lit (.int .i64 0)) = .lit (.int .i64 ((lastIx u i).getD 0 : Nat))

/-- a write under way, as cells -/
def wayCells (x : Nat × List UInt8) : List Value := .int .i64 x.1 :: bvs x.2
def undCells (u : List (Nat × List UInt8)) : List Value := u.flatMap wayCells

theorem wayCells_length (u : List (Nat × List UInt8)) (n : Nat) (hu : ∀ x ∈ u, x.1 < n ∧ x.2.length = 256) : ∀ x ∈ u, (wayCells x).length = 257 := by
  intro x hx; simp [wayCells, (hu x hx).2]
/-- write number k, as it lies in memory -/
theorem under_at {w : World} {v : Value} {T : TypeId} {u : List (Nat × List UInt8)} {n : Nat} (h : w.ownsRow 0 T 257 v u.length (undCells u)) (hu : ∀ x ∈ u, x.1 < n ∧ x.2.length = 256) (k i : Nat) (b : List UInt8) (hk : u[k]? = some (i, b)) :
    ∃ g cap, v = .slice (some ⟨g, 0, none⟩) u.length cap ∧ u.length ≤ cap ∧ cap ≤ maxLen ∧ g < w.heap.size ∧ w.rangeAt g (k * 257) (wayCells (i, b)) := by
  have hlt := (List.getElem?_eq_some_iff.1 hk).1
  rcases h.2 with h1 | ⟨g, cap, cur, hv, _, hh, h3, h4, h5, h6⟩
  · omega
  · refine ⟨g, cap, hv, h3, h4, (Array.getElem?_eq_some_iff.1 hh).1, fun j z hz => ?_⟩
    have hj : j < 257 := by
      have := (List.getElem?_eq_some_iff.1 hz).1
      rw [wayCells_length u n hu _ (List.mem_of_getElem? hk)] at this; exact this
    have e := flat_get wayCells 257 u (wayCells_length u n hu) k (i, b) hk j hj
    rw [hz] at e
    have e2 : (cur.toList.take (u.length * 257))[k * 257 + j]? = some z := by rw [h6]; exact e
    rw [List.getElem?_take, if_pos (by omega)] at e2
    rw [cell_of_row w g _ _ T _ hh]
    simpa using e2

/-- The disk D lies in memory at block p; its blocks are blocks of F. -/
def DiskAt (w : World) (F : Nat → Prop) (p : Nat) (D : Dsk) : Prop :=
  ∃ (pd pm : Nat) (uv : Value),
    Blk w p [.slice (some ⟨pd, 0, none⟩) D.n D.n, uv, .map (some pm), .bool D.off, .int .i64 D.armed, .int .i64 D.writes, .int .i64 D.flushes, .int .i64 D.life] 134 ∧
    Blk w pd (bvs D.img) 136 ∧
    w.ownsRow 0 138 257 uv D.und.length (undCells D.und) ∧ LastAt w pm D.und ∧
    (F p ∧ F pd ∧ F pm ∧ ∀ g, uv.ownBlock = some g → F g) ∧ (∀ k, F k → gB ≤ k ∧ k < w.heap.size) ∧ D.ok

theorem ownsRow_keep {w w' : World} {base : Nat} {e : TypeId} {size : Nat} {v : Value} {n : Nat} {xs : List Value} (h : w.ownsRow base e size v n xs) (hb : ∀ g, v.ownBlock = some g → w'.heap[g]? = w.heap[g]?) : w'.ownsRow base e size v n xs := by
  obtain ⟨h1, h2⟩ := h
  refine ⟨h1, ?_⟩
  rcases h2 with h2 | ⟨g, cap, cur, hv, hg, hh, r⟩
  · exact Or.inl h2
  · exact Or.inr ⟨g, cap, cur, hv, hg, by rw [hb g (by rw [hv]; rfl)]; exact hh, r⟩
theorem LastAt.keep {w w' : World} {b : Nat} {u : List (Nat × List UInt8)} (h : LastAt w b u) (e : w'.heap[b]? = w.heap[b]?) : LastAt w' b u := by
  obtain ⟨M, ⟨es, clock, hb, r⟩, h2⟩ := h
  exact ⟨M, ⟨es, clock, e.trans hb, r⟩, h2⟩
theorem LastAt.lt {w : World} {b : Nat} {u : List (Nat × List UInt8)} (h : LastAt w b u) : b < w.heap.size := by
  obtain ⟨M, h, _⟩ := h; exact h.lt

/-- what does not touch the disk's blocks leaves the disk -/
theorem DiskAt.keep {w w' : World} {F : Nat → Prop} {p : Nat} {D : Dsk} (hd : DiskAt w F p D) (hs : w.heap.size ≤ w'.heap.size) (h : ∀ k, F k → w'.heap[k]? = w.heap[k]?) : DiskAt w' F p D := by
  obtain ⟨pd, pm, uv, hp, hpd, hu, hm, hF, hb, hok⟩ := hd
  exact ⟨pd, pm, uv, hp.keep (h _ hF.1), hpd.keep (h _ hF.2.1), ownsRow_keep hu (fun g hg => h _ (hF.2.2.2 g hg)), hm.keep (h _ hF.2.2.1), hF, fun k hk => ⟨(hb k hk).1, Nat.lt_of_lt_of_le (hb k hk).2 hs⟩, hok⟩
theorem DiskAt.fr {w w' : World} {F G : Nat → Prop} {p : Nat} {D : Dsk} (hd : DiskAt w F p D) (h : Fr G w w') (hG : ∀ k, F k → ¬ G k) : DiskAt w' F p D :=
  hd.keep h.size fun k hk => h.block k (by obtain ⟨_, _, _, _, _, _, _, _, hb, _⟩ := hd; exact (hb k hk).2) (hG k hk)
theorem DiskAt.bound {w : World} {F : Nat → Prop} {p : Nat} {D : Dsk} (hd : DiskAt w F p D) : ∀ k, F k → gB ≤ k ∧ k < w.heap.size := by
  obtain ⟨_, _, _, _, _, _, _, _, hb, _⟩ := hd; exact hb
theorem DiskAt.good {w : World} {F : Nat → Prop} {p : Nat} {D : Dsk} (hd : DiskAt w F p D) : D.ok := by
  obtain ⟨_, _, _, _, _, _, _, _, _, h⟩ := hd; exact h
theorem DiskAt.has {w : World} {F : Nat → Prop} {p : Nat} {D : Dsk} (hd : DiskAt w F p D) : F p := by
  obtain ⟨_, _, _, _, _, _, _, hF, _, _⟩ := hd; exact hF.1
theorem DiskAt.cell {w : World} {F : Nat → Prop} {p : Nat} {D : Dsk} (hd : DiskAt w F p D) :
    w.cell? ⟨p, 3, none⟩ = some (.bool D.off) ∧ w.cell? ⟨p, 4, none⟩ = some (.int .i64 D.armed) ∧ w.cell? ⟨p, 5, none⟩ = some (.int .i64 D.writes) ∧ w.cell? ⟨p, 6, none⟩ = some (.int .i64 D.flushes) ∧ w.cell? ⟨p, 7, none⟩ = some (.int .i64 D.life) ∧
    (∀ j, w.frozen? ⟨p, j, none⟩ = false) := by
  obtain ⟨pd, pm, uv, hp, _⟩ := hd
  exact ⟨by rw [hp.cell]; rfl, by rw [hp.cell]; rfl, by rw [hp.cell]; rfl, by rw [hp.cell]; rfl, by rw [hp.cell]; rfl, hp.free⟩

/-- a plain field is stored -/
theorem DiskAt.store {w : World} {F : Nat → Prop} {p : Nat} {D : Dsk} (hd : DiskAt w F p D) (j : Nat) (v : Value) (D' : Dsk) (hn : D'.n = D.n) (hi : D'.img = D.img) (hu : D'.und = D.und)
    (hs : ∀ a u m : Value, [a, u, m, .bool D.off, .int .i64 D.armed, .int .i64 D.writes, .int .i64 D.flushes, .int .i64 D.life].set j v = [a, u, m, .bool D'.off, .int .i64 D'.armed, .int .i64 D'.writes, .int .i64 D'.flushes, .int .i64 D'.life]) (hok' : D'.ok) :
    DiskAt (w.setCell ⟨p, j, none⟩ v) F p D' := by
  obtain ⟨pd, pm, uv, hp, hpd, hu1, hm, hF, hb, hok⟩ := hd
  have hp' := hp.set j v
  rw [hs] at hp'
  have n1 : pd ≠ p := hpd.ne hp (by decide)
  have n2 : pm ≠ p := by obtain ⟨_, ⟨_, _, h, _⟩, _⟩ := hm; exact hp.ne_map h
  have n3 : ∀ g, uv.ownBlock = some g → g ≠ p := fun g hg => hp.ne_row hu1 hg (by decide)
  have keep : ∀ k, k ≠ p → (w.setCell ⟨p, j, none⟩ v).heap[k]? = w.heap[k]? := fun k hk => heap_setCell_other _ _ _ _ hk
  refine ⟨pd, pm, uv, by rw [hn]; exact hp', by rw [hi]; exact hpd.keep (keep _ n1), by rw [hu]; exact ownsRow_keep hu1 (fun g hg => keep _ (n3 g hg)), by rw [hu]; exact hm.keep (keep _ n2), hF, fun k hk => ⟨(hb k hk).1, by simpa [World.setCell] using (hb k hk).2⟩, hok'⟩

theorem goes_any (w : World) (F : Nat → Prop) (p : Nat) (D : Dsk) (hd : DiskAt w F p D) :
    Calls Tryd.prog 76 #[.pointer (some ⟨p, 0, none⟩)] w fun e w' => e = .returned (.bool D.dead) ∧ DiskAt w' F p D.gone ∧ Fr F w w' := by
  have hFp := hd.has
  obtain ⟨c3, c4, c5, c6, c7, fr⟩ := hd.cell
  have hok := hd.good
  have f3 := fr 3
  have f4 := fr 4
  have a1 := hok.arm1
  have a2 := hok.arm2
  have H : Hid (DiskAt w F p D ∧ F p ∧ D.ok) := ⟨hd, hFp, hok⟩
  clear hd hFp hok fr c5 c6 c7
  go_enter Tryd.func76, Tryd.ntmps76
  go_wp2
  · have h0 : D.armed = 0 := by have : (D.armed == 0) = true := by assumption
                                simpa using this
    go_ret
    obtain ⟨hd, hFp, hok⟩ := H
    refine ⟨by simp [Dsk.dead, h0], hd.store 3 _ D.gone D.gone_n D.gone_img D.gone_und ?_ (Dsk.gone_ok hok), (Fr.refl _ _).setCell (.inl hFp) _⟩
    intro a u m; simp [Dsk.gone, h0]
  · have h0 : ¬ D.armed = 0 := by have : (D.armed == 0) = false := by assumption
                                  simpa using this
    have h1 : 0 < D.armed := by assumption
    go_ret
    obtain ⟨hd, hFp, hok⟩ := H
    refine ⟨by simp [Dsk.dead, h0], hd.store 4 _ D.gone D.gone_n D.gone_img D.gone_und ?_ (Dsk.gone_ok hok), (Fr.refl _ _).setCell (.inl hFp) _⟩
    intro a u m; simp [Dsk.gone, h0, h1]
  · have h0 : ¬ D.armed = 0 := by have : (D.armed == 0) = false := by assumption
                                  simpa using this
    have h1 : ¬ 0 < D.armed := by have : D.armed ≤ 0 := by assumption
                                  omega
    go_ret
    obtain ⟨hd, hFp, hok⟩ := H
    exact ⟨by simp [Dsk.dead, h0], by have : D.gone = D := by simp [Dsk.gone, h0, h1]
                                      rw [this]; exact hd, Fr.refl _ _⟩
end Go.Proofs.YteklldbfdmaafaaDoor
/-
  The disk's small methods.
-/
namespace Go.Proofs.YteklldbfdmaafaaDoor
open Go Go.RowKit
/-- the global variable in which error number k lies -/
def errG : Nat → Nat
  | 1 => 7 | 2 => 8 | 3 => 0 | 4 => 9 | 5 => 10 | 6 => 3 | 7 => 4
  | 8 => 11 | 9 => 12 | 10 => 13 | 11 => 14 | 12 => 2 | 13 => 15 | 14 => 1
  | 15 => 5 | 16 => 16 | 17 => 6 | 18 => 17 | 19 => 18 | 20 => 19 | 21 => 20
  | 22 => 21 | 23 => 22 | 24 => 23 | 25 => 24 | 26 => 25 | 27 => 26 | 28 => 27
  | 29 => 28 | 30 => 29 | 31 => 30 | 32 => 31 | 33 => 32 | 34 => 33 | 35 => 34
  | 36 => 35 | 37 => 36 | _ => 1000000
/-- the error value of number k; 0: nil -/
def errV (E : Nat → Addr) (k : Nat) : Value := if k = 0 then .nilIface else .iface 204 (.pointer (some (E k)))
/-- error number k lies in its variable -/
def ErrAt (w : World) (E : Nat → Addr) (k : Nat) : Prop := w.cell? ⟨errG k, 0, none⟩ = some (errV E k)
theorem ErrAt.keep {w w' : World} {E : Nat → Addr} {k : Nat} (h : ErrAt w E k) {F : Nat → Prop} (hf : Fr F w w') (hF : ∀ i, F i → gB ≤ i) (hk : errG k < gB) : ErrAt w' E k := by
  unfold ErrAt at h ⊢
  have hb := block_lt_of_cell h
  rw [hf.cell hb (fun q => by have h1 : gB ≤ errG k := hF _ q; omega)]
  exact h

theorem zero_int (w : World) : (zeroValue 3).run Tryd.prog w = .ok (.int .i64 0) w := by kernel_rfl
theorem intKey (i : Nat) (hi : i ≤ 65536) : keyOf Tryd.prog 3 (.int .i64 i) = some (.int .i64 i) :=
  Maps.keyOf_int_mk Tryd.underlying3 (WalkArith.wf_i64 (by omega))

/-- the number of the last write of a sector is looked up -/
theorem wpList_lookup_last {ops : Array Oper} {rest : List Oper} {o : Oper} {a : Act} {w : World} {Q : Exit → Act → World → Prop} (hg : o.guard = none) (m x : Operand) (hop : o.op = Op.lookup 132 m x true)
    (b : Nat) (u : List (Nat × List UInt8)) (i : Nat) (hm : a.eval m = .map (some b)) (hx : a.eval x = .int .i64 i) (hL : LastAt w b u) (hi : i ≤ 65536)
    (hK : wpList Tryd.prog ops Q rest (a.put o.dst (.tuple #[.int .i64 ((lastIx u i).getD 0 : Nat), .bool (lastIx u i).isSome])) w) : wpList Tryd.prog ops Q (o :: rest) a w := by
  obtain ⟨M, hM, hs⟩ := hL
  refine wpList_lookup_own_ok_int w hg m x 132 hop 3 3 .i64 (Maps.int_keyed Tryd.underlying3) Tryd.underlying132 Tryd.underlying3 (zero_int _) b _ M hm hM _ _ hx (intKey i hi) ?_
  intro c hc _
  rw [(hs i).2] at hc
  injection hc with hc
  injection hc with _ hc
  subst hc
  rw [(hs i).1]
  exact hK

theorem wpList_lookup_none {ops : Array Oper} {rest : List Oper} {o : Oper} {a : Act} {w : World} {Q : Exit → Act → World → Prop} (hg : o.guard = none) (m x : Operand) (hop : o.op = Op.lookup 132 m x true)
    (b : Nat) (u : List (Nat × List UInt8)) (i : Nat) (hm : a.eval m = .map (some b)) (hx : a.eval x = .int .i64 i) (hL : LastAt w b u) (hi : i ≤ 65536) (hl : lastIx u i = none)
    (hK : wpList Tryd.prog ops Q rest (a.put o.dst (.tuple #[.int .i64 0, .bool false])) w) : wpList Tryd.prog ops Q (o :: rest) a w :=
  wpList_lookup_last hg m x hop b u i hm hx hL hi (by rw [hl]; exact hK)
theorem wpList_lookup_some {ops : Array Oper} {rest : List Oper} {o : Oper} {a : Act} {w : World} {Q : Exit → Act → World → Prop} (hg : o.guard = none) (m x : Operand) (hop : o.op = Op.lookup 132 m x true)
    (b : Nat) (u : List (Nat × List UInt8)) (i : Nat) (hm : a.eval m = .map (some b)) (hx : a.eval x = .int .i64 i) (hL : LastAt w b u) (hi : i ≤ 65536) (k : Nat) (hl : lastIx u i = some k)
    (hK : wpList Tryd.prog ops Q rest (a.put o.dst (.tuple #[.int .i64 k, .bool true])) w) : wpList Tryd.prog ops Q (o :: rest) a w :=
  wpList_lookup_last hg m x hop b u i hm hx hL hi (by rw [hl]; exact hK)

/-- the number of a new write is noted -/
theorem wpList_update_last {ops : Array Oper} {rest : List Oper} {o : Oper} {a : Act} {w : World} {Q : Exit → Act → World → Prop} (hg : o.guard = none) (m x v : Operand) (hop : o.op = Op.mapUpdate 132 m x v)
    (b : Nat) (u : List (Nat × List UInt8)) (i : Nat) (s : List UInt8) (hm : a.eval m = .map (some b)) (hx : a.eval x = .int .i64 i) (hv : a.eval v = .int .i64 u.length) (hL : LastAt w b u) (hi : i ≤ 65536) (hul : u.length < 1073741824)
    (hK : ∀ w', Hid (LastAt w' b (u ++ [(i, s)]) ∧ w.grownBy w' (some b)) → wpList Tryd.prog ops Q rest (a.put o.dst undef) w') : wpList Tryd.prog ops Q (o :: rest) a w := by
  obtain ⟨M, hM, hs⟩ := hL
  refine wpList_mapUpdate_own w hg m x v 132 hop 3 3 (Maps.int_keyed Tryd.underlying3) Tryd.underlying132 (plainElem Tryd.prog 3) b _ M hm hM (by unfold maxLen; omega) _ _ _ hx hv (intKey i hi) _ []
    (plainElem_int Tryd.underlying3 (WalkArith.wf_i64 (by omega))) ?_
  intro w' hM' hgr
  refine hK w' ⟨⟨_, by rw [List.length_append]; exact hM', fun j => ?_⟩, hgr⟩
  rw [lastIx_snoc]
  by_cases hij : i = j
  · subst hij
    rw [Maps.has_put_same (k := .int .i64 (i : Int)) hM.isMap trivial, Maps.atKey_put_same (k := .int .i64 (i : Int)) hM.isMap trivial]
    simp
  · have hne : (Lit.int IntKind.i64 (j : Int)) ≠ .int .i64 i := by
      intro e; injection e with _ e; omega
    rw [Maps.has_put_other hne, Maps.atKey_put_other hne, if_neg hij]
    exact hs j

theorem has_any (w : World) (F : Nat → Prop) (p : Nat) (D : Dsk) (hd : DiskAt w F p D) (i : Int) :
    Calls Tryd.prog 78 #[.pointer (some ⟨p, 0, none⟩), .int .i64 i] w fun e w' => e = .returned (.bool (D.has i)) ∧ w = w' := by
  have hok := hd.good
  obtain ⟨pd, pm, uv, hp, -⟩ := hd
  have c0 : w.cell? ⟨p, 0, none⟩ = some (.slice (some ⟨pd, 0, none⟩) D.n D.n) := by rw [hp.cell]; rfl
  have b2 := hok.n2
  clear hp hok
  by_cases h0 : 0 ≤ i
  · have h0' : decide ((0 : Int) ≤ i) = true := by simpa using h0
    by_cases h1 : i < D.n
    · go_enter Tryd.func78, Tryd.ntmps78
      go_wp2
      all_goals go_ret
      all_goals exact ⟨by simp [Dsk.has, h0, h1], rfl⟩
    · go_enter Tryd.func78, Tryd.ntmps78
      go_wp2
      all_goals go_ret
      all_goals exact ⟨by simp [Dsk.has, h0, h1], rfl⟩
  · go_enter Tryd.func78, Tryd.ntmps78
    go_wp2
    all_goals go_ret
    all_goals exact ⟨by have h0' : ¬ 0 ≤ i := by omega
                        simp [Dsk.has, h0'], rfl⟩

theorem size_any (w : World) (F : Nat → Prop) (p : Nat) (D : Dsk) (hd : DiskAt w F p D) :
    Calls Tryd.prog 40 #[.pointer (some ⟨p, 0, none⟩)] w fun e w' => e = .returned (.int .i64 D.n) ∧ w = w' := by
  have hok := hd.good
  obtain ⟨pd, pm, uv, hp, -⟩ := hd
  have c0 : w.cell? ⟨p, 0, none⟩ = some (.slice (some ⟨pd, 0, none⟩) D.n D.n) := by rw [hp.cell]; rfl
  have b2 := hok.n2
  clear hp hok
  go_enter Tryd.func40, Tryd.ntmps40
  go_wp2
  go_ret
  exact ⟨rfl, rfl⟩
theorem off_any (w : World) (F : Nat → Prop) (p : Nat) (D : Dsk) (hd : DiskAt w F p D) :
    Calls Tryd.prog 30 #[.pointer (some ⟨p, 0, none⟩)] w fun e w' => e = .returned (.bool D.off) ∧ w = w' := by
  obtain ⟨c3, -⟩ := hd.cell
  clear hd
  go_enter Tryd.func30, Tryd.ntmps30
  go_wp2
  go_ret
  exact ⟨rfl, rfl⟩
theorem life_any (w : World) (F : Nat → Prop) (p : Nat) (D : Dsk) (hd : DiskAt w F p D) :
    Calls Tryd.prog 41 #[.pointer (some ⟨p, 0, none⟩)] w fun e w' => e = .returned (.int .i64 D.life) ∧ w = w' := by
  obtain ⟨-, -, -, -, c7, -⟩ := hd.cell
  clear hd
  go_enter Tryd.func41, Tryd.ntmps41
  go_wp2
  go_ret
  exact ⟨rfl, rfl⟩
theorem arm_any (w : World) (F : Nat → Prop) (p : Nat) (D : Dsk) (hd : DiskAt w F p D) (k : Int) (hk : k ≤ 9223372036854775807) :
    Calls Tryd.prog 37 #[.pointer (some ⟨p, 0, none⟩), .int .i64 k] w fun e w' => e = .returned (.tuple #[]) ∧ DiskAt w' F p (D.arm k) ∧ Fr F w w' := by
  obtain ⟨-, c4, -, -, -, fr⟩ := hd.cell
  have f4 := fr 4
  have hFp := hd.has
  have hok := hd.good
  have H : Hid (DiskAt w F p D ∧ F p ∧ D.ok) := ⟨hd, hFp, hok⟩
  clear hd fr hFp hok
  by_cases hk1 : -1 < k
  · go_enter Tryd.func37, Tryd.ntmps37
    go_wp2
    all_goals go_end0
    all_goals
      obtain ⟨hd, hFp, hok⟩ := H
      refine ⟨rfl, hd.store 4 _ (D.arm k) rfl rfl rfl ?_ (Dsk.arm_ok hok k hk), (Fr.refl _ _).setCell (.inl hFp) _⟩
      intro a u m
      have : max k (-1) = k := by omega
      simp [Dsk.arm, this]
  · go_enter Tryd.func37, Tryd.ntmps37
    go_wp2
    all_goals go_end0
    all_goals
      obtain ⟨hd, hFp, hok⟩ := H
      refine ⟨rfl, hd.store 4 _ (D.arm k) rfl rfl rfl ?_ (Dsk.arm_ok hok k hk), (Fr.refl _ _).setCell (.inl hFp) _⟩
      intro a u m
      have : max k (-1) = -1 := by omega
      simp [Dsk.arm, this]
      try omega
end Go.Proofs.YteklldbfdmaafaaDoor
/-
  The disk's Read.
-/
namespace Go.Proofs.YteklldbfdmaafaaDoor
open Go Go.RowKit
theorem info_block : (Tryd.prog.info? 136).map (·.size) = some 256 := by kernel_rfl

theorem read_none (w : World) (F : Nat → Prop) (p : Nat) (D : Dsk) (hd : DiskAt w F p D) (i : Nat) (hoff : D.off = false) (hi : i < D.n) (hl : lastIx D.und i = none) :
    Calls Tryd.prog 26 #[.pointer (some ⟨p, 0, none⟩), .int .i64 i] w fun e w' => e = .returned (.tuple #[.string ⟨(D.rd i).toArray⟩, .nilIface]) ∧ Fr noB w w' := by
  have hok := hd.good
  have hhas : D.has i = true := by simp [Dsk.has, hi]
  have Hc := Lib.hid (has_any w F p D hd i)
  obtain ⟨pd, pm, uv, hp, hpd, hu, hm, hF, hb, -⟩ := hd
  have hrd : D.rd i = D.sec i := by rw [Dsk.rd, lastIx_none _ _ hl]; rfl
  have hlen : (D.sec i).length = 256 := by have := hok.len; exact cut_length _ _ _ (by omega)
  have c0 : w.cell? ⟨p, 0, none⟩ = some (.slice (some ⟨pd, 0, none⟩) D.n D.n) := by rw [hp.cell]; rfl
  have c2 : w.cell? ⟨p, 2, none⟩ = some (.map (some pm)) := by rw [hp.cell]; rfl
  have c3 : w.cell? ⟨p, 3, none⟩ = some (.bool false) := by rw [hp.cell, ← hoff]; rfl
  have b2 := hok.n2
  have lp := hp.lt
  have hr : w.rangeAt pd (i * 256) (bvs (D.sec i)) := by
    have := hpd.range (o := i * 256) (n := 256)
    rwa [bvs_drop, bvs_take] at this
  rw [hhas] at Hc
  have H : Hid (w.rangeAt pd (i * 256) (bvs (D.sec i)) ∧ LastAt (w.alloc (.cells (bvs (D.sec i)).toArray 136)) pm D.und ∧ (D.sec i).length = 256 ∧ D.rd i = D.sec i ∧ lastIx D.und i = none) :=
    ⟨hr, hm.keep (Below.heap_alloc _ _ _ hm.lt), hlen, hrd, hl⟩
  clear hp hpd hu hm hF hb hok hoff hhas hr hrd hlen hl
  go_enter Tryd.func26, Tryd.ntmps26
  go_upto_region 5 with (first | (go_at_call 78; refine Hc.out.mono ?_; rintro e w' ⟨rfl, rfl⟩))
  go_upto_region 6 with (first | ((with_reducible refine wpList_load_mid ?_ 136 (.tmp 24) ?_ pd (i * 256) ?_ (bvs (D.sec i)) _ H.out.1 Tryd.underlying136 rfl ?hi ?_); (rfl); (rfl); (rfl)) | ((with_reducible refine wpList_store_top ?_ 136 (.tmp 6) (.tmp 25) ?_ _ (bvs (D.sec i)).toArray _ ?_ ?_ ?hz ?hi2 (all_bvs _) ?_); (rfl); (rfl); (rfl); (rfl)))
  case hi => rw [info_block, bvs_length, H.out.2.2.1]
  case hz => simp [Tryd.zeroCells136_size, H.out.2.2.1]
  case hi2 => rw [info_block]; simp [H.out.2.2.1]
  go_frame
  go_wp2_with (first | (at_lookup; (with_reducible refine wpList_lookup_none ?_ (.tmp 30) (.tmp 31) ?_ pm D.und i ?_ ?_ H.out.2.1 (by omega) H.out.2.2.2.2 ?_); (rfl); (rfl); (rfl); (rfl)) | ((with_reducible refine wpList_bytes_string ?_ 112 9 5 (.tmp 44) ?_ Tryd.underlying112 Tryd.underlying5 Tryd.underlying9 w.heap.size 0 256 256 (D.sec i) ?_ H.out.2.2.1.symm ?hc ?_); (rfl); (rfl); (rfl)))
  case hc => exact range_new _ _ _
  go_ret2
  exact ⟨congrArg (fun l : List UInt8 => Ending.returned (.tuple #[.string ⟨l.toArray⟩, .nilIface])) H.out.2.2.2.1.symm, (Fr.refl _ _).alloc _⟩

theorem read_some (w : World) (F : Nat → Prop) (p : Nat) (D : Dsk) (hd : DiskAt w F p D) (i : Nat) (hoff : D.off = false) (hi : i < D.n) (k : Nat) (hl : lastIx D.und i = some k) :
    Calls Tryd.prog 26 #[.pointer (some ⟨p, 0, none⟩), .int .i64 i] w fun e w' => e = .returned (.tuple #[.string ⟨(D.rd i).toArray⟩, .nilIface]) ∧ Fr noB w w' := by
  have hok := hd.good
  have hhas : D.has i = true := by simp [Dsk.has, hi]
  have Hc := Lib.hid (has_any w F p D hd i)
  obtain ⟨pd, pm, uv, hp, hpd, hu, hm, hF, hb, -⟩ := hd
  obtain ⟨b, hk, hW⟩ := lastIx_some _ _ _ hl
  have hrd : D.rd i = b := by rw [Dsk.rd, hW]; rfl
  have hbl : b.length = 256 := (hok.und _ (List.mem_of_getElem? hk)).2
  have hkl : k < D.und.length := (List.getElem?_eq_some_iff.1 hk).1
  obtain ⟨g, cap, rfl, hc1, hc2, hgl, hg⟩ := under_at hu hok.und k i b hk
  have hlen : (D.sec i).length = 256 := by have := hok.len; exact cut_length _ _ _ (by omega)
  have c0 : w.cell? ⟨p, 0, none⟩ = some (.slice (some ⟨pd, 0, none⟩) D.n D.n) := by rw [hp.cell]; rfl
  have c1 : w.cell? ⟨p, 1, none⟩ = some (.slice (some ⟨g, 0, none⟩) D.und.length cap) := by rw [hp.cell]; rfl
  have c2 : w.cell? ⟨p, 2, none⟩ = some (.map (some pm)) := by rw [hp.cell]; rfl
  have c3 : w.cell? ⟨p, 3, none⟩ = some (.bool false) := by rw [hp.cell, ← hoff]; rfl
  have b2 := hok.n2
  have lp := hp.lt
  have hr : w.rangeAt pd (i * 256) (bvs (D.sec i)) := by
    have := hpd.range (o := i * 256) (n := 256)
    rwa [bvs_drop, bvs_take] at this
  have hg2 : (w.alloc (.cells (bvs (D.sec i)).toArray 136)).rangeAt g (k * 257 + 1) (bvs b) := by
    refine World.rangeAt_alloc (fun j v hj => ?_) _
    have := hg (j + 1) v (by simpa [wayCells] using hj)
    rw [show k * 257 + 1 + j = k * 257 + (j + 1) by omega]; exact this
  rw [hhas] at Hc
  unfold maxLen at hc2
  have H : Hid (w.rangeAt pd (i * 256) (bvs (D.sec i)) ∧ LastAt (w.alloc (.cells (bvs (D.sec i)).toArray 136)) pm D.und ∧ (D.sec i).length = 256 ∧ D.rd i = b ∧ lastIx D.und i = some k ∧ (w.alloc (.cells (bvs (D.sec i)).toArray 136)).rangeAt g (k * 257 + 1) (bvs b) ∧ b.length = 256) :=
    ⟨hr, hm.keep (Below.heap_alloc _ _ _ hm.lt), hlen, hrd, hl, hg2, hbl⟩
  clear hp hpd hu hm hF hb hok hoff hhas hr hrd hlen hl hg hg2 hbl hk hW
  go_enter Tryd.func26, Tryd.ntmps26
  go_upto_region 5 with (first | (go_at_call 78; refine Hc.out.mono ?_; rintro e w' ⟨rfl, rfl⟩))
  go_upto_region 6 with (first | ((with_reducible refine wpList_load_mid ?_ 136 (.tmp 24) ?_ pd (i * 256) ?_ (bvs (D.sec i)) _ H.out.1 Tryd.underlying136 rfl ?hi ?_); (rfl); (rfl); (rfl)) | ((with_reducible refine wpList_store_top ?_ 136 (.tmp 6) (.tmp 25) ?_ _ (bvs (D.sec i)).toArray _ ?_ ?_ ?hz ?hi2 (all_bvs _) ?_); (rfl); (rfl); (rfl); (rfl)))
  case hi => rw [info_block, bvs_length, H.out.2.2.1]
  case hz => simp [Tryd.zeroCells136_size, H.out.2.2.1]
  case hi2 => rw [info_block]; simp [H.out.2.2.1]
  go_frame
  go_upto_region 8 with (first | (at_lookup; (with_reducible refine wpList_lookup_some ?_ (.tmp 30) (.tmp 31) ?_ pm D.und i ?_ ?_ H.out.2.1 (by omega) k H.out.2.2.2.2.1 ?_); (rfl); (rfl); (rfl); (rfl)))
  go_upto_region 9 with (first | ((with_reducible refine wpList_load_mid ?_ 136 (.tmp 42) ?_ g (k * 257 + 1) ?_ (bvs b) _ H.out.2.2.2.2.2.1 Tryd.underlying136 rfl ?hi3 ?_); (rfl); (rfl); (rfl)) | ((with_reducible refine wpList_store_top ?_ 136 (.tmp 6) (.tmp 43) ?_ _ (bvs b).toArray _ ?_ ?_ ?hz4 ?hi4 (all_bvs _) ?_); (rfl); (rfl); (rfl); (rfl)))
  case hi3 => rw [info_block, bvs_length, H.out.2.2.2.2.2.2]
  case hz4 => simp [H.out.2.2.1, H.out.2.2.2.2.2.2]
  case hi4 => rw [info_block]; simp [H.out.2.2.2.2.2.2]
  go_frame
  go_wp2_with (first | ((with_reducible refine wpList_bytes_string ?_ 112 9 5 (.tmp 44) ?_ Tryd.underlying112 Tryd.underlying5 Tryd.underlying9 w.heap.size 0 256 256 b ?_ H.out.2.2.2.2.2.2.symm ?hc ?_); (rfl); (rfl); (rfl)))
  case hc => exact range_new _ _ _
  go_ret2
  exact ⟨congrArg (fun l : List UInt8 => Ending.returned (.tuple #[.string ⟨l.toArray⟩, .nilIface])) H.out.2.2.2.1.symm, (Fr.refl _ _).alloc _⟩

theorem read_off (w : World) (F : Nat → Prop) (p : Nat) (D : Dsk) (E : Nat → Addr) (hd : DiskAt w F p D) (i : Int) (h12 : ErrAt w E 12) (ho : D.off = true) :
    Calls Tryd.prog 26 #[.pointer (some ⟨p, 0, none⟩), .int .i64 i] w fun e w' => e = .returned (.tuple #[.string ⟨#[]⟩, errV E 12]) ∧ Fr noB w w' := by
  obtain ⟨c3, -⟩ := hd.cell
  have e12 : w.cell? ⟨2, 0, none⟩ = some (errV E 12) := h12
  rw [ho] at c3
  clear h12 hd ho
  go_enter Tryd.func26, Tryd.ntmps26
  go_wp2
  go_quiet (fail)
  all_goals go_wp2
  all_goals go_ret2
  all_goals exact ⟨rfl, (Fr.refl _ _).drewN _⟩
theorem read_out (w : World) (F : Nat → Prop) (p : Nat) (D : Dsk) (E : Nat → Addr) (hd : DiskAt w F p D) (i : Int) (h6 : ErrAt w E 6) (ho : D.off = false) (hh : D.has i = false) :
    Calls Tryd.prog 26 #[.pointer (some ⟨p, 0, none⟩), .int .i64 i] w fun e w' => e = .returned (.tuple #[.string ⟨#[]⟩, errV E 6]) ∧ Fr noB w w' := by
  have Hc := Lib.hid (has_any w F p D hd i)
  obtain ⟨c3, -⟩ := hd.cell
  have e6 : w.cell? ⟨3, 0, none⟩ = some (errV E 6) := h6
  rw [ho] at c3
  rw [hh] at Hc
  clear h6 hd ho hh
  go_enter Tryd.func26, Tryd.ntmps26
  go_wp2_with (first | (go_at_call 78; refine Hc.out.mono ?_; rintro e w' ⟨rfl, rfl⟩))
  go_quiet (fail)
  all_goals go_wp2
  all_goals go_ret2
  all_goals exact ⟨rfl, (Fr.refl _ _).drewN _⟩

theorem read_any (w : World) (F : Nat → Prop) (p : Nat) (D : Dsk) (E : Nat → Addr) (hd : DiskAt w F p D) (i : Int) (h12 : ErrAt w E 12) (h6 : ErrAt w E 6) :
    Calls Tryd.prog 26 #[.pointer (some ⟨p, 0, none⟩), .int .i64 i] w fun e w' => e = .returned (.tuple #[.string ⟨(D.readS i).toArray⟩, errV E (D.readE i)]) ∧ Fr noB w w' := by
  by_cases ho : D.off = true
  · have e1 : D.readS i = [] := by simp [Dsk.readS, ho]
    have e2 : D.readE i = 12 := by simp [Dsk.readE, ho]
    rw [e1, e2]
    exact read_off w F p D E hd i h12 ho
  have ho : D.off = false := by simpa using ho
  by_cases hh : D.has i = true
  · have hi : 0 ≤ i ∧ i < D.n := by simpa [Dsk.has] using hh
    obtain ⟨j, rfl⟩ := Int.eq_ofNat_of_zero_le hi.1
    have e1 : D.readS j = D.rd j := by simp [Dsk.readS, ho, hh]
    have e2 : D.readE j = 0 := by simp [Dsk.readE, ho, hh]
    rw [e1, e2]
    cases hl : lastIx D.und j with
    | none => exact read_none w F p D hd j ho (by omega) hl
    | some k => exact read_some w F p D hd j ho (by omega) k hl
  · have hh : D.has i = false := by simpa using hh
    have e1 : D.readS i = [] := by simp [Dsk.readS, ho, hh]
    have e2 : D.readE i = 6 := by simp [Dsk.readE, ho, hh]
    rw [e1, e2]
    exact read_out w F p D E hd i h6 ho hh
end Go.Proofs.YteklldbfdmaafaaDoor
/-
  The disk's settled and Write.
-/
namespace Go.Proofs.YteklldbfdmaafaaDoor
open Go Go.RowKit
theorem wpList_clear_last {ops : Array Oper} {rest : List Oper} {o : Oper} {a : Act} {w : World} {Q : Exit → Act → World → Prop} (hg : o.guard = none) (m : Operand)
    (ho : o.op = .call { callee := .builtin .clear, args := #[m], argTypes := #[132] }) (b : Nat) (u : List (Nat × List UInt8)) (hm : a.eval m = .map (some b)) (hL : LastAt w b u)
    (hK : ∀ w', Hid (LastAt w' b [] ∧ w.grownBy w' (some b)) → wpList Tryd.prog ops Q rest (a.put o.dst (.tuple #[])) w') : wpList Tryd.prog ops Q (o :: rest) a w := by
  obtain ⟨M, ⟨es, clock, hb, _⟩, _⟩ := hL
  have hlt : b < w.heap.size := (Array.getElem?_eq_some_iff.1 hb).1
  refine wpList_clear_map hg m _ _ _ Tryd.underlying132 ho b es clock hm hb (hK _ ⟨⟨.map [], ⟨#[], clock, ?_, ⟨Nat.zero_le _, MapKept.stamped_empty _, fun x hx => by cases hx⟩, Nat.le_refl _, rfl⟩, ?_⟩, ⟨rfl, rfl, rfl, by simp, ?_⟩⟩)
  · simp [hlt]
  · intro i; exact ⟨rfl, rfl⟩
  · intro k hk hne
    simp only [ne_eq, Option.some.injEq] at hne
    simp [Ne.symm hne]

theorem settled_any (w : World) (F : Nat → Prop) (p : Nat) (D : Dsk) (hd : DiskAt w F p D) :
    Calls Tryd.prog 77 #[.pointer (some ⟨p, 0, none⟩)] w fun e w' => e = .returned (.tuple #[]) ∧ DiskAt w' F p D.clr ∧ Fr F w w' := by
  obtain ⟨pd, pm, uv, hp, hpd, hu, hm, hF, hb, hok⟩ := hd
  have c1 : w.cell? ⟨p, 1, none⟩ = some uv := by rw [hp.cell]; rfl
  have c2 : w.cell? ⟨p, 2, none⟩ = some (.map (some pm)) := by rw [hp.cell]; rfl
  have f1 := hp.free 1
  have H : Hid (Blk w p [.slice (some ⟨pd, 0, none⟩) D.n D.n, uv, .map (some pm), .bool D.off, .int .i64 D.armed, .int .i64 D.writes, .int .i64 D.flushes, .int .i64 D.life] 134 ∧ Blk w pd (bvs D.img) 136 ∧ LastAt w pm D.und ∧ (F p ∧ F pd ∧ F pm ∧ ∀ g, uv.ownBlock = some g → F g) ∧ (∀ k, F k → gB ≤ k ∧ k < w.heap.size) ∧ D.ok) := ⟨hp, hpd, hm, hF, hb, hok⟩
  have Hm : Hid (LastAt (w.setCell ⟨p, 1, none⟩ (.slice none 0 0)) pm D.und) := hm.keep (heap_setCell_other _ _ _ _ (by obtain ⟨_, ⟨_, _, h, _⟩, _⟩ := hm; exact hp.ne_map h))
  clear hp hpd hu hm hF hb hok
  go_enter Tryd.func77, Tryd.ntmps77
  go_upto_region 1 with (fail)
  go_wp2_with ((with_reducible refine wpList_clear_last ?_ (.tmp 8) ?_ pm D.und ?_ Hm.out ?_); (rfl); (rfl); (rfl); (intro w1 hw1))
  go_end0
  obtain ⟨hp, hpd, hm, hF, hb, hok⟩ := H
  obtain ⟨hm1, hg⟩ := hw1
  have n1 : pd ≠ p := hpd.ne hp (by decide)
  have n2 : pm ≠ p := by obtain ⟨_, ⟨_, _, h, _⟩, _⟩ := hm; exact hp.ne_map h
  have n3 : pm ≠ pd := by obtain ⟨_, ⟨_, _, h, _⟩, _⟩ := hm; exact hpd.ne_map h
  have hs : (w.setCell ⟨p, 1, none⟩ (Value.slice none 0 0)).heap.size = w.heap.size := by simp [World.setCell]
  have k1 : ∀ k, k < w.heap.size → k ≠ pm → w1.heap[k]? = (w.setCell ⟨p, 1, none⟩ (Value.slice none 0 0)).heap[k]? := fun k hk hne => hg.block k (by rw [hs]; exact hk) (by simpa using hne)
  have hp' := (hp.set 1 (.slice none 0 0)).keep (k1 p hp.lt (Ne.symm n2))
  refine ⟨rfl, ⟨pd, pm, .slice none 0 0, hp', ?_, World.ownsRow_nil _ _ _ _, hm1, ⟨hF.1, hF.2.1, hF.2.2.1, fun g hg => by simp [Value.ownBlock] at hg⟩, fun k hk => ⟨(hb k hk).1, Nat.lt_of_lt_of_le (hb k hk).2 (by have := hg.size; rw [hs] at this; exact this)⟩, Dsk.clr_ok hok⟩, ?_⟩
  · exact hpd.keep ((k1 pd hpd.lt (Ne.symm n3)).trans (heap_setCell_other _ _ _ _ n1))
  · exact ((Fr.refl F w).setCell (.inl hF.1) _).grown hg (fun k hk => by cases hk; exact .inl hF.2.2.1)
end Go.Proofs.YteklldbfdmaafaaDoor
/-
  The disk's Write.
-/
namespace Go.Proofs.YteklldbfdmaafaaDoor
open Go Go.RowKit
theorem built_write (v : Int) : Tryd.prog.built 138 [(0, .int .i64 v)] = some (.int .i64 v :: bvs (zs 256)).toArray := by kernel_rfl
theorem info_write : (Tryd.prog.info? 138).map (·.size) = some 257 := by kernel_rfl
theorem info_byte : (Tryd.prog.info? 5).map (·.size) = some 1 := by kernel_rfl
/-- a write's cells before its bytes are there -/
def rawWay (i : Nat) : List Value := .int .i64 i :: bvs (zs 256)
theorem rawWay_length (i : Nat) : (rawWay i).length = 257 := by rw [rawWay, List.length_cons, bvs_length, zs_length]
theorem rawWay_one (i : Nat) : (rawWay i).toArray.all (·.oneCell') = true := by
  rw [Array.all_eq_true_iff_forall_mem]
  intro v hv
  rcases List.mem_cons.1 (show v ∈ _ :: bvs _ by simpa only [List.mem_toArray, rawWay] using hv) with h | h
  · subst h; rfl
  · exact bvs_one _ v h
theorem wayCells_len (i : Nat) (s : List UInt8) (hs : s.length = 256) : (wayCells (i, s)).length = 257 := by simp [wayCells, hs]
theorem wayCells_one (x : Nat × List UInt8) : ∀ u ∈ wayCells x, u.oneCell' = true := by
  intro v hv
  rcases List.mem_cons.1 hv with h | h
  · subst h; rfl
  · exact bvs_one _ v h
theorem lay_way (i : Nat) (s : List UInt8) (hs : s.length = 256) : lay (rawWay i) 1 (bvs (s.take 256)) = wayCells (i, s) := by
  have : s.take 256 = s := List.take_of_length_le (by omega)
  rw [this]
  unfold lay rawWay wayCells
  rw [List.drop_eq_nil_of_le (by rw [List.length_cons, bvs_length, bvs_length, zs_length]; omega)]
  simp

theorem own_shape {w : World} {base : Nat} {e : TypeId} {size : Nat} {v : Value} {n : Nat} {xs : List Value} (h : w.ownsRow base e size v n xs) : ∃ a c, v = .slice a n c := by
  rcases h.2 with h | ⟨g, cap, cur, hv, _⟩
  · exact ⟨none, 0, by rw [h.1, h.2]⟩
  · exact ⟨_, _, hv⟩
/-- the blocks of F and the new ones -/
def grow (F : Nat → Prop) (w w' : World) : Nat → Prop := fun k => F k ∨ (w.heap.size ≤ k ∧ k < w'.heap.size)
def Dsk.push (D : Dsk) (i : Nat) (s : List UInt8) : Dsk := { D with und := D.und ++ [(i, s)] }
theorem Dsk.push_ok {D : Dsk} (h : D.ok) (i : Nat) (s : List UInt8) (hi : i < D.n) (hs : s.length = 256) : (D.push i s).ok := ⟨h.n1, h.n2, h.len, by
  intro x hx
  rcases List.mem_append.1 hx with hx | hx
  · exact h.und x hx
  · simp at hx; subst hx; exact ⟨hi, hs⟩, h.arm1, h.arm2⟩

/-- what the write's two statements leave: the new write lies behind the others -/
theorem pushed {w w1 w3 : World} {F : Nat → Prop} {p pd pm : Nat} {uv v' : Value} {D : Dsk} {i : Nat} {s : List UInt8} {A B : Obj}
    (hp : Blk w p [.slice (some ⟨pd, 0, none⟩) D.n D.n, uv, .map (some pm), .bool D.off, .int .i64 D.armed, .int .i64 D.writes, .int .i64 D.flushes, .int .i64 D.life] 134)
    (hpd : Blk w pd (bvs D.img) 136) (hu : w.ownsRow 0 138 257 uv D.und.length (undCells D.und)) (hm : LastAt w pm D.und)
    (hF : F p ∧ F pd ∧ F pm ∧ ∀ g, uv.ownBlock = some g → F g) (hb : ∀ k, F k → gB ≤ k ∧ k < w.heap.size) (hok : D.ok) (hi : i < D.n) (hs : s.length = 256)
    (hw1 : LastAt w1 pm (D.und ++ [(i, s)]) ∧ (w.alloc A).drew.grownBy w1 (some pm))
    (hw3 : w3.ownsRow 0 138 257 v' (D.und.length + 1) (undCells D.und ++ wayCells (i, s)) ∧ (w1.drew.alloc B).grownBy w3 uv.ownBlock ∧ (v'.ownBlock = uv.ownBlock ∨ v'.ownBlock = some (w1.drew.alloc B).heap.size)) :
    DiskAt (w3.setCell ⟨p, 1, none⟩ v') (grow F w (w3.setCell ⟨p, 1, none⟩ v')) p (D.push i s) ∧ Fr F w (w3.setCell ⟨p, 1, none⟩ v') ∧
      w3.cell? ⟨p, 1, none⟩ = some uv ∧ w3.frozen? ⟨p, 1, none⟩ = false := by
  have n1 : pd ≠ p := hpd.ne hp (by decide)
  have n2 : pm ≠ p := by obtain ⟨_, ⟨_, _, h, _⟩, _⟩ := hm; exact hp.ne_map h
  have n3 : pm ≠ pd := by obtain ⟨_, ⟨_, _, h, _⟩, _⟩ := hm; exact hpd.ne_map h
  have n4 : ∀ g, uv.ownBlock = some g → g ≠ p := fun g hg => hp.ne_row hu hg (by decide)
  have n5 : ∀ g, uv.ownBlock = some g → g ≠ pd := fun g hg => hpd.ne_row hu hg (by decide)
  have n6 : ∀ g, uv.ownBlock = some g → g ≠ pm := fun g hg => by
    obtain ⟨_, ⟨_, _, h, _⟩, _⟩ := hm
    intro e; subst e
    rcases hu.2 with h1 | ⟨g', cap, cur, hv, _, hh, _⟩
    · rw [h1.1] at hg; simp [Value.ownBlock] at hg
    · rw [hv] at hg; simp [Value.ownBlock] at hg; subst hg; rw [h] at hh; cases hh
  obtain ⟨hL, g1⟩ := hw1
  obtain ⟨ho, g3, hloc⟩ := hw3
  have s1 : w.heap.size + 1 ≤ w1.heap.size := by have := g1.size; simpa using this
  have s3 : w1.heap.size + 1 ≤ w3.heap.size := by have := g3.size; simpa using this
  have k1 : ∀ k, k < w.heap.size → k ≠ pm → w1.heap[k]? = w.heap[k]? := fun k hk hne =>
    (g1.block k (by simp; omega) (by simpa using hne)).trans (Below.heap_alloc w A k hk)
  have k3 : ∀ k, k < w1.heap.size → (∀ g, uv.ownBlock = some g → g ≠ k) → w3.heap[k]? = w1.heap[k]? := fun k hk hne =>
    (g3.block k (by simp; omega) (by intro e; exact hne k e.symm rfl)).trans (Below.heap_alloc w1.drew B k (by simpa using hk))
  have lp := hp.lt
  have lpd := hpd.lt
  have lpm := hm.lt
  have b3 : Blk w3 p _ _ := hp.keep ((k3 p (by omega) (fun g hg => n4 g hg)).trans (k1 p lp (Ne.symm n2)))
  have bd3 : Blk w3 pd _ _ := hpd.keep ((k3 pd (by omega) (fun g hg => n5 g hg)).trans (k1 pd lpd (Ne.symm n3)))
  have L3 : LastAt w3 pm _ := hL.keep (k3 pm (by omega) (fun g hg => n6 g hg))
  have hs4 : (w3.setCell ⟨p, 1, none⟩ v').heap.size = w3.heap.size := by simp [World.setCell]
  have q : ∀ k, k ≠ p → (w3.setCell ⟨p, 1, none⟩ v').heap[k]? = w3.heap[k]? := fun k hk => heap_setCell_other _ _ _ _ hk
  have hv' : ∀ g, v'.ownBlock = some g → g ≠ p ∧ grow F w (w3.setCell ⟨p, 1, none⟩ v') g := fun g hg => by
    have hlt := (ho.lt g hg).2
    rcases hloc with h | h
    · rw [h] at hg; exact ⟨n4 g hg, .inl (hF.2.2.2 g hg)⟩
    · rw [h] at hg
      simp at hg
      exact ⟨by omega, .inr ⟨by omega, by rw [hs4]; exact hlt⟩⟩
  refine ⟨⟨pd, pm, v', b3.set 1 v', bd3.keep (q _ n1), ?_, L3.keep (q _ n2), ⟨.inl hF.1, .inl hF.2.1, .inl hF.2.2.1, fun g hg => (hv' g hg).2⟩, ?_, Dsk.push_ok hok i s hi hs⟩, ?_, by rw [b3.cell]; rfl, b3.free 1⟩
  · have e : undCells (D.push i s).und = undCells D.und ++ wayCells (i, s) := by simp [undCells, Dsk.push]
    have e2 : (D.push i s).und.length = D.und.length + 1 := by simp [Dsk.push]
    rw [e, e2]
    exact ownsRow_keep ho (fun g hg => q g (hv' g hg).1)
  · intro k hk
    have := hb p hF.1
    rcases hk with hk | hk
    · have := hb k hk; rw [hs4]; omega
    · rw [hs4] at hk ⊢; omega
  · have f1 : Fr F w w1 := ((Fr.refl F w).alloc A).drew.grown g1 (fun k hk => by cases hk; exact .inl hF.2.2.1)
    have f3 : Fr F w w3 := (f1.drew.alloc B).grown g3 (fun k hk => .inl (hF.2.2.2 k hk))
    exact f3.setCell (.inl hF.1) _

set_option maxRecDepth 100000 in
set_option maxHeartbeats 400000 in
theorem write_ok (w : World) (F : Nat → Prop) (p : Nat) (D : Dsk) (E : Nat → Addr) (hd : DiskAt w F p D) (i : Nat) (s : List UInt8) (h12 : ErrAt w E 12) (hoff : D.off = false) (hi : i < D.n) (hs : s.length = 256) (hul : D.und.length < 1073741824) :
    Calls Tryd.prog 32 #[.pointer (some ⟨p, 0, none⟩), .int .i64 i, .string ⟨s.toArray⟩] w fun e w' => e = .returned (errV E (D.writeE i s)) ∧ ∃ F', DiskAt w' F' p (D.writeD i s) ∧ Fr F w w' ∧ ∀ k, F' k → F k ∨ w.heap.size ≤ k := by
  have hok := hd.good
  have hhas : D.has i = true := by simp [Dsk.has, hi]
  have Hc := Lib.hid (has_any w F p D hd i)
  rw [hhas] at Hc
  obtain ⟨c3, -⟩ := hd.cell
  rw [hoff] at c3
  have Hs := Lib.hid hs
  have hs1 : ((s.length : Int) != 256) = false := by rw [hs]; rfl
  have hb2 := hok.n2
  obtain ⟨pd, pm, uv, hp, hpd, hu, hm, hF, hb, -⟩ := hd
  have c1 : w.cell? ⟨p, 1, none⟩ = some uv := by rw [hp.cell]; rfl
  have c2 : w.cell? ⟨p, 2, none⟩ = some (.map (some pm)) := by rw [hp.cell]; rfl
  have huv : ∃ a c, uv = .slice a D.und.length c := by
    rcases hu.2 with h | ⟨g, cap, cur, hv, _⟩
    · exact ⟨none, 0, by rw [h.1, h.2]⟩
    · exact ⟨_, _, hv⟩
  obtain ⟨ua, uc, rfl⟩ := huv
  have lp := hp.lt
  have lm := hm.lt
  have npm : pm ≠ p := by obtain ⟨_, ⟨_, _, h, _⟩, _⟩ := hm; exact hp.ne_map h
  have f1 := hp.free 1
  have hoff' := Lib.hid hoff
  have Hp := Lib.hid hF.1
  have HD := Lib.hid (And.intro hp (And.intro hpd (And.intro hu (And.intro hm (And.intro hF (And.intro hb hok))))))
  have HU : Hid (w.ownsRow 0 138 257 (.slice ua D.und.length uc) D.und.length (undCells D.und) ∧ ∀ g, (Value.slice ua D.und.length uc).ownBlock = some g → g < w.heap.size ∧ g ≠ pm) :=
    ⟨hu, fun g hg => ⟨(hu.lt g hg).2, by
      obtain ⟨_, ⟨_, _, h, _⟩, _⟩ := hm
      intro e; subst e
      rcases hu.2 with h1 | ⟨g', cap, cur, hv, _, hh, _⟩
      · rw [h1.1] at hg; simp [Value.ownBlock] at hg
      · rw [hv] at hg; simp [Value.ownBlock] at hg; subst hg; rw [h] at hh; cases hh⟩⟩
  have HL : Hid (LastAt (w.alloc (.cells (wayCells (i, s)).toArray 138)).drew pm D.und) := hm.keep (Below.heap_alloc _ _ _ hm.lt)
  clear hok hhas hoff hs hp hpd hu hm hF hb
  go_enter Tryd.func32, Tryd.ntmps32
  go_upto_region 7 with (first | (go_at_call 78; refine Hc.out.mono ?_; rintro e w' ⟨rfl, rfl⟩))

  go_upto_region 8 with (first | ((with_reducible refine wpList_build_as ?_ 138 [(0, .tmp 22)] ?_ (rawWay i).toArray ?_ ?_); (rfl); (rfl); (exact built_write i)) | ((with_reducible refine wpList_store_top ?_ 138 (.tmp 7) (.tmp 23) ?_ _ (rawWay i).toArray _ ?_ ?_ (by rw [Tryd.zeroCells138_size, List.size_toArray, rawWay_length]) (by rw [info_write, List.size_toArray, rawWay_length]) (rawWay_one i) ?_); (rfl); (rfl); (rfl); (rfl)))
  go_frame
  go_upto_region 9 with (first | ((with_reducible refine wpList_copy_str_top ?_ (.tmp 25) (.tmp 26) 112 9 5 ?_ Tryd.underlying112 info_byte 1 256 256 s (rawWay i) (wayCells (i, s)) _ ?_ ?_ (by rw [rawWay_length]; simp [Hs.out]) (lay_way i s Hs.out) ?_); (rfl); (rfl); (rfl); (rfl)))
  go_frame
  refine wp_region_tail 10 (by kernel_rfl) (by kernel_rfl) ?_
  simp only [List.take_succ_cons, List.take_zero, List.drop_succ_cons, List.drop_zero]
  repeat still_step
  refine wpStill_nil ?_
  (with_reducible refine wpList_update_last ?_ (.tmp 31) (.tmp 32) (.tmp 37) ?_ pm D.und i s ?_ ?_ ?_ HL.out (by omega) hul ?_); rfl; rfl; rfl; rfl; rfl
  intro w1 hw1
  have hsz : (w.alloc (.cells (wayCells (i, s)).toArray 138)).drew.heap.size = w.heap.size + 1 := by simp
  have hk : ∀ k, k ≤ w.heap.size → k ≠ pm → w1.heap[k]? = (w.alloc (.cells (wayCells (i, s)).toArray 138)).heap[k]? := fun k h1 h2 => hw1.out.2.block k (by rw [hsz]; omega) (by simpa using h2)
  have d1 : w1.cell? ⟨p, 1, none⟩ = some (.slice ua D.und.length uc) := by
    rw [World.cell?_of_block (hk p (by omega) (by omega)), ← c1]; exact World.cell?_of_block (Below.heap_alloc _ _ _ lp)
  have e1 : w1.frozen? ⟨p, 1, none⟩ = false := by
    rw [World.frozen?_of_block (hk p (by omega) (by omega)), ← f1]; exact World.frozen?_of_block (Below.heap_alloc _ _ _ lp)
  have Hr : Hid (w1.rangeAt w.heap.size 0 (wayCells (i, s))) := fun j v hj => (World.cell?_of_block (w := w.alloc _) (hk w.heap.size (by omega) (by omega))).trans (range_new w _ _ j v hj)
  have hk1 : p < w1.heap.size := by have := hw1.out.2.size; rw [hsz] at this; omega
  have HO : Hid ((w1.drew.alloc (.cells (wayCells (i, s)).toArray 138)).ownsRow 0 138 257 (.slice ua D.und.length uc) D.und.length (undCells D.und)) := by
    refine ownsRow_keep (w := w) HU.out.1 (fun g hg => ?_)
    have h2 := HU.out.2 g hg
    have h3 := hw1.out.2.size
    rw [hsz] at h3
    exact (Below.heap_alloc w1.drew _ g (by simpa using (by omega : g < w1.heap.size))).trans ((hk g (by omega) h2.2).trans (Below.heap_alloc _ _ _ h2.1))
  have Hk := Lib.hid hk
  clear hk
  go_upto_region 10 with (fail)
  refine wp_region_reads 6 7 (fun w' => w'.cell? ⟨p, 1, none⟩ = some (.slice ua D.und.length uc) ∧ w'.rangeAt w.heap.size 0 (wayCells (i, s))) (by kernel_rfl) ?hBB ?hQQ ?hSS ?hMM
  case hBB => kernel_rfl
  case hQQ => intro c a d v w h; cases d <;> exact h
  case hSS => exact ⟨d1, Hr.out⟩
  simp only [List.take_succ_cons, List.take_zero, List.drop_succ_cons, List.drop_zero, Nat.reduceSub]
  refine readsT_move rfl _ rfl (.pointer (some ⟨p, 0, none⟩)) rfl ?_
  go_frame
  refine readsT_move rfl _ rfl (.pointer (some ⟨p, 0, none⟩)) rfl ?_
  go_frame
  refine readsT_pure rfl rfl (.pointer (some ⟨p, 0, none⟩)) (fun w' => by go_simp) ?_
  go_frame
  refine readsT_pure rfl rfl (.pointer (some ⟨p, 1, none⟩)) (fun w' => by go_simp) ?_
  go_frame
  refine readsT_load rfl rfl (.slice ua D.und.length uc) (fun w' hS => by have hS1 := hS.1; clear hS; go_simp) ?_
  go_frame
  refine readsT_load_mid rfl 138 (.tmp 7) rfl w.heap.size 0 rfl (wayCells (i, s)) _ (fun w' hS => hS.2) Tryd.underlying138 rfl (by rw [info_write, wayCells_len _ _ Hs.out]) ?_
  go_frame
  unfold readsT
  refine earlyT_step rfl (wp_buildSlice_one 131 138 (.tmp 43) rfl Tryd.underlying131 257 (by kernel_rfl) (.agg (wayCells (i, s)).toArray) rfl (wayCells (i, s)).toArray rfl (by rw [List.size_toArray, wayCells_len _ _ Hs.out]) (by omega) (by omega) ⟨?_, ?_⟩)
  · exact ⟨(World.cell?_of_block (w := w1.drew) (Below.heap_alloc _ _ _ (by have := hk1; simpa using this))).trans d1, World.rangeAt_alloc Hr.out _⟩
  unfold earlyT
  go_frame
  have hB : (w1.drew.alloc (.cells (wayCells (i, s)).toArray 138)).rangeAt w1.heap.size 0 (wayCells (i, s)) := range_new w1.drew _ _
  (with_reducible refine wpList_append_row ?_ (.tmp 42) (.tmp 44) 131 138 ?_ Tryd.underlying131 257 264 (by kernel_rfl) (by omega) (.slice ua D.und.length uc) D.und.length (undCells D.und) ?_ HO.out w1.heap.size 0 1 1 (wayCells (i, s)) ?_ (by rw [wayCells_len _ _ Hs.out]) hB (wayCells_one _) (by unfold maxLen; omega) (by omega) ?_); rfl; rfl; rfl; rfl
  intro vn w3 hw3
  obtain ⟨va, vc, rfl⟩ := own_shape hw3.out.1
  have HP := Lib.hid (pushed HD.out.1 HD.out.2.1 HD.out.2.2.1 HD.out.2.2.2.1 HD.out.2.2.2.2.1 HD.out.2.2.2.2.2.1 HD.out.2.2.2.2.2.2 hi Hs.out hw1.out hw3.out)
  have d3 := HP.out.2.2.1
  have e3 := HP.out.2.2.2
  go_frame
  go_upto_region 11 with (fail)
  obtain ⟨D1, hD1⟩ : ∃ D1, D1 = D.push i s := ⟨_, rfl⟩
  obtain ⟨w4, hw4⟩ : ∃ w4, w4 = w3.setCell ⟨p, 1, none⟩ (.slice va (D.und.length + 1) vc) := ⟨_, rfl⟩
  have G := goes_any w4 (grow F w w4) p D1 (by rw [hw4, hD1]; exact HP.out.1)
  rw [← hw4]
  have hdd : D1.dead = D.dead := by rw [hD1]; rfl
  rw [hdd] at G
  have HF4 : Hid (Fr F w w4) := by rw [hw4]; exact HP.out.2.1
  have HD1 := Lib.hid hD1
  have h12' := h12
  have hh12 : ErrAt w4 E 12 := h12.keep HF4.out (fun k hk => (HD.out.2.2.2.2.2.1 k hk).1) (by decide)
  have HE : Hid (D.writeE i s = if D.dead then 12 else 0) := by
    have h1 : D.off = false := hoff'.out
    have h2 : D.has i = true := by simp [Dsk.has, hi]
    show _ = _
    simp [Dsk.writeE, h1, h2, Hs.out]
  have HW : Hid (D.writeD i s = if D.dead then D1.gone else { D1.gone with writes := w64 (D1.gone.writes + 1) }) := by
    have h1 : D.off = false := hoff'.out
    have h2 : D.has i = true := by simp [Dsk.has, hi]
    show _ = _
    rw [HD1.out]
    simp [Dsk.writeD, h1, h2, Hs.out, Dsk.push]
  have Hgr : Hid (∀ w', Fr (grow F w w4) w4 w' → Fr F w w') := fun w' h => HF4.out.trans h (fun k hk => hk.imp id (fun q => q.1))
  have Hb := Lib.hid HD.out.2.2.2.2.2.1
  clear hD1 hdd hw4 HP hw3 hw1 HO d1 e1 d3 e3 c1 c2 c3 f1 HL HU h12' HD hB
  by_cases hdead : D.dead = true
  · rw [hdead] at G
    have GH := Lib.hid G
    have Hdead := Lib.hid hdead
    have H12 := Lib.hid hh12
    clear G hdead hh12
    go_upto_region 12 with (go_at_call 76; refine GH.out.mono ?_; rintro e w5 ⟨rfl, hd5⟩; have Hd5 := Lib.hid hd5; have e12 : w5.cell? ⟨2, 0, none⟩ = some (errV E 12) := (H12.out.keep hd5.2 (fun k hk => by rcases hk with hk | hk; exact (Hb.out k hk).1; have := (Hb.out p Hp.out).1; omega) (by decide)); clear hd5)
    go_wp2
    go_ret
    refine ⟨show Ending.returned (errV E 12) = .returned (errV E (D.writeE i s)) from by rw [HE.out, Hdead.out]; rfl, grow F w w4, ?_, Hgr.out _ Hd5.out.2, fun k hk => hk.imp id (fun q => q.1)⟩
    rw [HW.out, Hdead.out]; exact Hd5.out.1
  · have hdead : D.dead = false := by simpa using hdead
    rw [hdead] at G
    have GH := Lib.hid G
    have Hdead := Lib.hid hdead
    clear G hdead hh12
    go_upto_region 13 with (go_at_call 76; refine GH.out.mono ?_; rintro e w5 ⟨rfl, hd5⟩; have c5 := hd5.1.cell.2.2.1; have f5 := hd5.1.cell.2.2.2.2.2 5; have Hd5 := Lib.hid hd5; clear hd5)
    go_wp2
    go_ret
    refine ⟨show Ending.returned Value.nilIface = .returned (errV E (D.writeE i s)) from by rw [HE.out, Hdead.out]; rfl, grow F w w4, ?_, Hgr.out _ (Hd5.out.2.setCell (.inl (.inl Hp.out)) _), fun k hk => hk.imp id (fun q => q.1)⟩
    rw [HW.out, Hdead.out]
    simp only [Bool.false_eq_true, if_false]
    refine Hd5.out.1.store 5 _ _ rfl rfl rfl (fun a u m => ?_) ?_
    · rfl
    · have := Hd5.out.1.good; exact ⟨this.n1, this.n2, this.len, this.und, this.arm1, this.arm2⟩
end Go.Proofs.YteklldbfdmaafaaDoor
/-
  The disk's Write, refused; every Write.
-/
namespace Go.Proofs.YteklldbfdmaafaaDoor
open Go Go.RowKit
theorem write_off (w : World) (F : Nat → Prop) (p : Nat) (D : Dsk) (E : Nat → Addr) (hd : DiskAt w F p D) (i : Int) (s : List UInt8) (h12 : ErrAt w E 12) (ho : D.off = true) :
    Calls Tryd.prog 32 #[.pointer (some ⟨p, 0, none⟩), .int .i64 i, .string ⟨s.toArray⟩] w fun e w' => e = .returned (errV E 12) ∧ w = w' := by
  obtain ⟨c3, -⟩ := hd.cell
  have e12 : w.cell? ⟨2, 0, none⟩ = some (errV E 12) := h12
  rw [ho] at c3
  clear h12 hd ho
  go_enter Tryd.func32, Tryd.ntmps32
  go_wp2
  all_goals go_ret
  all_goals exact ⟨rfl, rfl⟩
theorem write_out (w : World) (F : Nat → Prop) (p : Nat) (D : Dsk) (E : Nat → Addr) (hd : DiskAt w F p D) (i : Int) (s : List UInt8) (h6 : ErrAt w E 6) (ho : D.off = false) (hh : D.has i = false) :
    Calls Tryd.prog 32 #[.pointer (some ⟨p, 0, none⟩), .int .i64 i, .string ⟨s.toArray⟩] w fun e w' => e = .returned (errV E 6) ∧ w = w' := by
  have Hc := Lib.hid (has_any w F p D hd i)
  obtain ⟨c3, -⟩ := hd.cell
  have e6 : w.cell? ⟨3, 0, none⟩ = some (errV E 6) := h6
  rw [ho] at c3
  rw [hh] at Hc
  clear h6 hd ho hh
  go_enter Tryd.func32, Tryd.ntmps32
  go_wp2_with (first | (go_at_call 78; refine Hc.out.mono ?_; rintro e w' ⟨rfl, rfl⟩))
  all_goals go_ret
  all_goals exact ⟨rfl, rfl⟩
theorem write_form (w : World) (F : Nat → Prop) (p : Nat) (D : Dsk) (E : Nat → Addr) (hd : DiskAt w F p D) (i : Int) (s : List UInt8) (h7 : ErrAt w E 7) (ho : D.off = false) (hh : D.has i = true) (hs : s.length ≠ 256) :
    Calls Tryd.prog 32 #[.pointer (some ⟨p, 0, none⟩), .int .i64 i, .string ⟨s.toArray⟩] w fun e w' => e = .returned (errV E 7) ∧ w = w' := by
  have Hc := Lib.hid (has_any w F p D hd i)
  obtain ⟨c3, -⟩ := hd.cell
  have e7 : w.cell? ⟨4, 0, none⟩ = some (errV E 7) := h7
  rw [ho] at c3
  rw [hh] at Hc
  have hs1 : ((s.length : Int) != 256) = true := by rw [bne_iff_ne]; omega
  clear h7 hd ho hh hs
  go_enter Tryd.func32, Tryd.ntmps32
  go_wp2_with (first | (go_at_call 78; refine Hc.out.mono ?_; rintro e w' ⟨rfl, rfl⟩))
  all_goals go_ret
  all_goals exact ⟨rfl, rfl⟩

theorem write_any (w : World) (F : Nat → Prop) (p : Nat) (D : Dsk) (E : Nat → Addr) (hd : DiskAt w F p D) (i : Int) (s : List UInt8) (h12 : ErrAt w E 12) (h6 : ErrAt w E 6) (h7 : ErrAt w E 7) (hul : D.und.length < 1073741824) :
    Calls Tryd.prog 32 #[.pointer (some ⟨p, 0, none⟩), .int .i64 i, .string ⟨s.toArray⟩] w fun e w' => e = .returned (errV E (D.writeE i s)) ∧ ∃ F', DiskAt w' F' p (D.writeD i s) ∧ Fr F w w' ∧ ∀ k, F' k → F k ∨ w.heap.size ≤ k := by
  have same : ∀ e w', e = w → w = w' → ∀ D', D' = D → ∃ F', DiskAt w' F' p D' ∧ Fr F w w' ∧ ∀ k, F' k → F k ∨ w.heap.size ≤ k := by
    rintro _ w' - rfl _ rfl
    exact ⟨F, hd, Fr.refl _ _, fun k hk => .inl hk⟩
  by_cases ho : D.off = true
  · have e1 : D.writeE i s = 12 := by simp [Dsk.writeE, ho]
    have e2 : D.writeD i s = D := by simp [Dsk.writeD, ho]
    rw [e1, e2]
    refine (write_off w F p D E hd i s h12 ho).mono ?_
    rintro e w' ⟨rfl, h⟩
    exact ⟨rfl, same w w' rfl h _ rfl⟩
  have ho : D.off = false := by simpa using ho
  by_cases hh : D.has i = true
  · by_cases hs : s.length = 256
    · have hi : 0 ≤ i ∧ i < D.n := by simpa [Dsk.has] using hh
      obtain ⟨j, rfl⟩ := Int.eq_ofNat_of_zero_le hi.1
      exact write_ok w F p D E hd j s h12 ho (by omega) hs hul
    · have e1 : D.writeE i s = 7 := by simp [Dsk.writeE, ho, hh, hs]
      have e2 : D.writeD i s = D := by simp [Dsk.writeD, ho, hh, hs]
      rw [e1, e2]
      refine (write_form w F p D E hd i s h7 ho hh hs).mono ?_
      rintro e w' ⟨rfl, h⟩
      exact ⟨rfl, same w w' rfl h _ rfl⟩
  · have hh : D.has i = false := by simpa using hh
    have e1 : D.writeE i s = 6 := by simp [Dsk.writeE, ho, hh]
    have e2 : D.writeD i s = D := by simp [Dsk.writeD, ho, hh]
    rw [e1, e2]
    refine (write_out w F p D E hd i s h6 ho hh).mono ?_
    rintro e w' ⟨rfl, h⟩
    exact ⟨rfl, same w w' rfl h _ rfl⟩
end Go.Proofs.YteklldbfdmaafaaDoor
/-
  The disk's Flush.
-/
namespace Go.Proofs.YteklldbfdmaafaaDoor
open Go Go.RowKit
/-- the flush's loop behind k writes -/
structure Flushing (w : World) (F : Nat → Prop) (p pd pm : Nat) (uv : Value) (D : Dsk) (img : List UInt8) (wr : World) : Prop where
  hp : Blk wr p [.slice (some ⟨pd, 0, none⟩) D.n D.n, uv, .map (some pm), .bool D.off, .int .i64 D.armed, .int .i64 D.writes, .int .i64 D.flushes, .int .i64 D.life] 134
  hpd : Blk wr pd (bvs img) 136
  hu : wr.ownsRow 0 138 257 uv D.und.length (undCells D.und)
  hm : LastAt wr pm D.und
  fr : Fr F w wr

theorem bvs_lay (img b : List UInt8) (o : Nat) : lay (bvs img) o (bvs b) = bvs (lay img o b) := by simp [lay, bvs, List.map_take, List.map_drop]

theorem Flushing.next {w wr : World} {F : Nat → Prop} {p pd pm : Nat} {uv : Value} {D : Dsk} {img : List UInt8} (h : Flushing w F p pd pm uv D img wr) (hF : F pd) (O : Obj) (j : Nat) (b : List UInt8) :
    Flushing w F p pd pm uv D (lay img j b) ((wr.alloc O).drew.setRow pd (bvs (lay img j b)).toArray) := by
  obtain ⟨hp, hpd, hu, hm, fr⟩ := h
  have n1 : p ≠ pd := hp.ne hpd (by decide)
  have n3 : pm ≠ pd := by obtain ⟨_, ⟨_, _, h, _⟩, _⟩ := hm; exact hpd.ne_map h
  have k : ∀ i, i < wr.heap.size → i ≠ pd → ((wr.alloc O).drew.setRow pd (bvs (lay img j b)).toArray).heap[i]? = wr.heap[i]? := fun i h1 h2 =>
    (setRow_other _ _ _ _ h2).trans (Below.heap_alloc _ _ _ h1)
  have hpd' : Blk (wr.alloc O).drew pd (bvs img) 136 := hpd.keep (Below.heap_alloc _ _ _ hpd.lt)
  exact ⟨hp.keep (k p hp.lt n1), hpd'.row _, ownsRow_keep hu (fun g hg => k g (hu.lt g hg).2 (hpd.ne_row hu hg (by decide))), hm.keep (k pm hm.lt n3), ((fr.alloc _).drew).setRow (.inl hF) _⟩

theorem all_way (x : Nat × List UInt8) : (wayCells x).toArray.all (·.oneCell') = true := by
  rw [Array.all_eq_true_iff_forall_mem]
  intro v hv
  exact wayCells_one x v (by simpa using hv)

set_option maxRecDepth 100000 in
set_option maxHeartbeats 1000000 in
theorem flush_ok (w : World) (F : Nat → Prop) (p : Nat) (D : Dsk) (hd : DiskAt w F p D) (hoff : D.off = false) (hdead : D.dead = false) (hul : D.und.length < 1073741824) :
    Calls Tryd.prog 24 #[.pointer (some ⟨p, 0, none⟩)] w fun e w' => e = .returned .nilIface ∧ DiskAt w' F p D.flushD ∧ Fr F w w' := by
  have HG := Lib.hid (goes_any w F p D hd)
  obtain ⟨c3, -⟩ := hd.cell
  rw [hoff] at c3
  rw [hdead] at HG
  have HR : Hid (D.flushD = { D.gone with img := layAll D.img D.und, und := [], flushes := w64 (D.flushes + 1) }) := by
    show _ = _
    simp [Dsk.flushD, hoff, hdead]
  clear hd hoff hdead
  go_enter Tryd.func24, Tryd.ntmps24
  go_upto_region 3 with (go_at_call 76; refine HG.out.mono ?_; rintro e w1 ⟨rfl, hd1⟩; have Hd1 := Lib.hid hd1; clear hd1)
  obtain ⟨hd1, hf1⟩ := Hd1
  obtain ⟨pd, pm, uv, hp, hpd, hu, hm, hF, hb, hok⟩ := hd1
  obtain ⟨ua, uc, rfl⟩ := own_shape hu
  have c1 : w1.cell? ⟨p, 1, none⟩ = some (.slice ua D.gone.und.length uc) := by rw [hp.cell]; rfl
  have hul' : D.gone.und.length < 1073741824 := by rw [Dsk.gone_und]; exact hul
  have HI := Lib.hid (And.intro hF (And.intro hb hok))
  have HI0 := Lib.hid (Flushing.mk (w := w1) (F := F) (img := D.gone.img) hp hpd hu hm (Fr.refl F w1))
  have Hf1 := Lib.hid hf1
  clear hp hpd hu hm hF hb hok hf1 c3
  go_wp2_with (fail)
  go_loopw [19] (fun x wr => ∃ k : Nat, k ≤ D.gone.und.length ∧ x = .int .i64 k ∧ Hid (Flushing w1 F p pd pm (.slice ua D.gone.und.length uc) D.gone (layAll D.gone.img (D.gone.und.take k)) wr)) (fun x _ => D.gone.und.length - (intOf x).toNat)
  case atStart => exact ⟨0, Nat.zero_le _, rfl, by rw [List.take_zero]; exact HI0.out⟩
  case round =>
    obtain ⟨k, hk, rfl, HK⟩ := hrel
    have hokg := HI.out.2.2
    have b2 := hokg.n2
    by_cases hlt : k < D.gone.und.length
    · obtain ⟨j, b, hkj⟩ : ∃ j b, D.gone.und[k]? = some (j, b) := ⟨(D.gone.und[k]).1, (D.gone.und[k]).2, by rw [List.getElem?_eq_getElem hlt]⟩
      have hjb := hokg.und _ (List.mem_of_getElem? hkj)
      have hj : j < D.gone.n := hjb.1
      have Hbl : Hid (b.length = 256) := hjb.2
      obtain ⟨g, cap, hv, hc1, hc2, hgl, hg⟩ := under_at HK.out.hu hokg.und k j b hkj
      cases hv
      unfold maxLen at hc2
      have c0 : wr.cell? ⟨p, 0, none⟩ = some (.slice (some ⟨pd, 0, none⟩) D.gone.n D.gone.n) := by rw [HK.out.hp.cell]; rfl
      have lpr := HK.out.hp.lt
      have Hg := Lib.hid hg
      have Hkj := Lib.hid hkj
      clear hokg hjb hg hkj
      have HS : Hid ((wr.alloc (.cells (wayCells (j, b)).toArray 138)).drew.cell? ⟨p, 0, none⟩ = some (.slice (some ⟨pd, 0, none⟩) D.gone.n D.gone.n) ∧ (wr.alloc (.cells (wayCells (j, b)).toArray 138)).drew.cell? ⟨wr.heap.size, 0, none⟩ = some (.int .i64 j) ∧ (wr.alloc (.cells (wayCells (j, b)).toArray 138)).drew.rangeAt wr.heap.size 1 (bvs b)) := by
        have hrn := range_new wr (wayCells (j, b)) 138
        refine ⟨(World.cell?_of_block (w := wr) (Below.heap_alloc _ _ _ lpr)).trans c0, hrn 0 _ rfl, fun z v hz => ?_⟩
        have := hrn (z + 1) v (by simpa [wayCells] using hz)
        rw [show 1 + z = 0 + (z + 1) by omega]; exact this
      have HB2 : Hid (Blk (wr.alloc (.cells (wayCells (j, b)).toArray 138)).drew pd (bvs (layAll D.gone.img (D.gone.und.take k))) 136) := HK.out.hpd.keep (Below.heap_alloc _ _ _ HK.out.hpd.lt)
      have Hlen : Hid ((layAll D.gone.img (D.gone.und.take k)).length = 256 * D.gone.n) := layAll_length _ _ _ HI.out.2.2.len (fun x hx => HI.out.2.2.und x (List.mem_of_mem_take hx))
      go_upto_region 6 with (first | ((with_reducible refine wpList_load_mid ?_ 138 (.tmp 21) ?_ g (k * 257) ?_ (wayCells (j, b)) _ Hg.out Tryd.underlying138 rfl (by rw [info_write, wayCells_len _ _ Hbl.out]) ?_); (rfl); (rfl); (rfl)) | ((with_reducible refine wpList_store_top ?_ 138 (.tmp 4) (.tmp 22) ?_ _ (wayCells (j, b)).toArray _ ?_ ?_ (by rw [Tryd.zeroCells138_size, List.size_toArray, wayCells_len _ _ Hbl.out]) (by rw [info_write, List.size_toArray, wayCells_len _ _ Hbl.out]) (all_way _) ?_); (rfl); (rfl); (rfl); (rfl)))
      go_frame
      refine wp_region_reads 9 9 (fun w' => w'.cell? ⟨p, 0, none⟩ = some (.slice (some ⟨pd, 0, none⟩) D.gone.n D.gone.n) ∧ w'.cell? ⟨wr.heap.size, 0, none⟩ = some (.int .i64 j) ∧ w'.rangeAt wr.heap.size 1 (bvs b)) (by kernel_rfl) ?hBB ?hQQ ?hSS ?hMM
      case hBB => kernel_rfl
      case hQQ => intro c a d v w h; cases d <;> exact h
      case hSS => exact HS.out
      simp only [List.take_succ_cons, List.take_zero, List.drop_succ_cons, List.drop_zero, Nat.reduceSub]
      refine readsT_move rfl _ rfl (.pointer (some ⟨p, 0, none⟩)) rfl ?_
      go_frame
      refine readsT_pure rfl rfl (.pointer (some ⟨p, 0, none⟩)) (fun w' => by go_simp) ?_
      go_frame
      refine readsT_pure rfl rfl (.pointer (some ⟨p, 0, none⟩)) (fun w' => by go_simp) ?_
      go_frame
      refine readsT_load rfl rfl (.slice (some ⟨pd, 0, none⟩) D.gone.n D.gone.n) (fun w' hS => by have hS1 := hS.1; clear hS; go_simp) ?_
      go_frame
      refine readsT_pure rfl rfl (.pointer (some ⟨wr.heap.size, 0, none⟩)) (fun w' => by go_simp) ?_
      go_frame
      refine readsT_load rfl rfl (.int .i64 j) (fun w' hS => by have hS1 := hS.2.1; clear hS; go_simp) ?_
      go_frame
      refine readsT_pure rfl rfl (.pointer (some ⟨wr.heap.size, 1, none⟩)) (fun w' => by go_simp) ?_
      go_frame
      refine readsT_load_mid rfl 136 (.tmp 29) rfl wr.heap.size 1 rfl (bvs b) _ (fun w' hS => hS.2.2) Tryd.underlying136 rfl (by rw [info_block, bvs_length, Hbl.out]) ?_
      go_frame
      refine readsT_pure rfl rfl (.pointer (some ⟨pd, j * 256, none⟩)) (fun w' => by go_simp) ?_
      go_frame
      unfold readsT earlyT
      (with_reducible refine wpList_store_lay ?_ 136 (.tmp 31) (.tmp 30) ?_ pd (j * 256) _ (bvs b) 136 ?_ ?_ HB2.out (by rw [bvs_length, bvs_length, Hlen.out, Hbl.out]; omega) (by rw [info_block, bvs_length, Hbl.out]) (bvs_one _) ?_); rfl; rfl; rfl; rfl
      go_wp2
      go_roundw
      case rel =>
        refine ⟨k + 1, by omega, by go_num, ?_⟩
        have := HK.out.next HI.out.1.2.1 (.cells (wayCells (j, b)).toArray 138) (j * 256) b
        rw [layAll_take _ _ _ _ _ Hkj.out, bvs_lay]
        exact this
      case measure => simp [intOf]; omega
    · have hkk : k = D.gone.und.length := by omega
      obtain ⟨Df, hDf⟩ : ∃ Df : Dsk, Df = { D.gone with img := layAll D.gone.img D.gone.und } := ⟨_, rfl⟩
      have hlen : (layAll D.gone.img D.gone.und).length = 256 * D.gone.n := layAll_length _ _ _ hokg.len hokg.und
      have hdr : DiskAt wr F p Df := by
        have hk2 := HK.out
        rw [hkk, List.take_length] at hk2
        rw [hDf]
        exact ⟨pd, pm, _, hk2.hp, hk2.hpd, hk2.hu, hk2.hm, HI.out.1, fun i hi => ⟨(HI.out.2.1 i hi).1, Nat.lt_of_lt_of_le (HI.out.2.1 i hi).2 hk2.fr.size⟩, ⟨hokg.n1, hokg.n2, hlen, hokg.und, hokg.arm1, hokg.arm2⟩⟩
      have HSt := Lib.hid (settled_any wr F p Df hdr)
      have HDf : Hid (D.flushD = { Df.clr with flushes := w64 (Df.clr.flushes + 1) }) := by
        show _ = _
        rw [HR.out, hDf]
        simp only [Dsk.clr, Dsk.gone_und, Dsk.gone_img, Dsk.gone_flushes]
      have HFr : Hid (Fr F w wr) := Hf1.out.trans' HK.out.fr
      clear hokg hkk hDf hlen hdr HK
      go_upto_region 10 with (go_at_call 77; refine HSt.out.mono ?_; rintro e w2 ⟨rfl, hd2⟩; have c6 := hd2.1.cell.2.2.2.1; have f6 := hd2.1.cell.2.2.2.2.2 6; have Hd2 := Lib.hid hd2; clear hd2)
      go_wp2
      go_ret
      refine ⟨rfl, ?_, (HFr.out.trans' Hd2.out.2).setCell (.inl HI.out.1.1) _⟩
      rw [HDf.out]
      refine Hd2.out.1.store 6 _ _ rfl rfl rfl (fun a u m => rfl) ?_
      have := Hd2.out.1.good; exact ⟨this.n1, this.n2, this.len, this.und, this.arm1, this.arm2⟩

theorem flush_dead (w : World) (F : Nat → Prop) (p : Nat) (D : Dsk) (E : Nat → Addr) (hd : DiskAt w F p D) (h12 : ErrAt w E 12) (hoff : D.off = false) (hdead : D.dead = true) :
    Calls Tryd.prog 24 #[.pointer (some ⟨p, 0, none⟩)] w fun e w' => e = .returned (errV E 12) ∧ DiskAt w' F p D.gone ∧ Fr F w w' := by
  have HG := Lib.hid (goes_any w F p D hd)
  have HB := Lib.hid hd.bound
  obtain ⟨c3, -⟩ := hd.cell
  rw [hoff] at c3
  rw [hdead] at HG
  have H12 := Lib.hid h12
  clear hd hoff hdead h12
  go_enter Tryd.func24, Tryd.ntmps24
  go_upto_region 2 with (go_at_call 76; refine HG.out.mono ?_; rintro e w1 ⟨rfl, hd1⟩; have e12 : w1.cell? ⟨2, 0, none⟩ = some (errV E 12) := H12.out.keep hd1.2 (fun k hk => (HB.out k hk).1) (by decide); have Hd1 := Lib.hid hd1; clear hd1)
  go_wp2
  go_ret
  exact ⟨rfl, Hd1.out⟩
theorem flush_off (w : World) (F : Nat → Prop) (p : Nat) (D : Dsk) (E : Nat → Addr) (hd : DiskAt w F p D) (h12 : ErrAt w E 12) (hoff : D.off = true) :
    Calls Tryd.prog 24 #[.pointer (some ⟨p, 0, none⟩)] w fun e w' => e = .returned (errV E 12) ∧ w = w' := by
  obtain ⟨c3, -⟩ := hd.cell
  rw [hoff] at c3
  have e12 : w.cell? ⟨2, 0, none⟩ = some (errV E 12) := h12
  clear hd hoff h12
  go_enter Tryd.func24, Tryd.ntmps24
  go_wp2
  all_goals go_ret
  all_goals exact ⟨rfl, rfl⟩
theorem flush_any (w : World) (F : Nat → Prop) (p : Nat) (D : Dsk) (E : Nat → Addr) (hd : DiskAt w F p D) (h12 : ErrAt w E 12) (hul : D.und.length < 1073741824) :
    Calls Tryd.prog 24 #[.pointer (some ⟨p, 0, none⟩)] w fun e w' => e = .returned (errV E D.flushE) ∧ DiskAt w' F p D.flushD ∧ Fr F w w' := by
  cases hoff : D.off
  · cases hdead : D.dead
    · have e1 : D.flushE = 0 := by simp [Dsk.flushE, hoff, hdead]
      rw [e1]
      exact flush_ok w F p D hd hoff hdead hul
    · have e1 : D.flushE = 12 := by simp [Dsk.flushE, hoff, hdead]
      have e2 : D.flushD = D.gone := by simp [Dsk.flushD, hoff, hdead]
      rw [e1, e2]
      exact flush_dead w F p D E hd h12 hoff hdead
  · have e1 : D.flushE = 12 := by simp [Dsk.flushE, hoff]
    have e2 : D.flushD = D := by simp [Dsk.flushD, hoff]
    rw [e1, e2]
    refine (flush_off w F p D E hd h12 hoff).mono ?_
    rintro e w' ⟨rfl, rfl⟩
    exact ⟨rfl, hd, Fr.refl _ _⟩
end Go.Proofs.YteklldbfdmaafaaDoor
/-
  The disk's Crash.
-/
namespace Go.Proofs.YteklldbfdmaafaaDoor
open Go Go.RowKit
/-- v is a slice of these bools -/
def BoolsAt (w : World) (v : Value) (l : List Bool) : Prop := ∃ a c, v = .slice a l.length c ∧ (l ≠ [] → ∃ b o, a = some ⟨b, o, none⟩ ∧ b < w.heap.size ∧ w.rangeAt b o (l.map .bool)) ∧ (a = none → c = 0) ∧ l.length ≤ c ∧ c ≤ maxLen

theorem Flushing.skip {w wr : World} {F : Nat → Prop} {p pd pm : Nat} {uv : Value} {D : Dsk} {img : List UInt8} (h : Flushing w F p pd pm uv D img wr) (O : Obj) : Flushing w F p pd pm uv D img (wr.alloc O) := by
  obtain ⟨hp, hpd, hu, hm, fr⟩ := h
  exact ⟨hp.keep (Below.heap_alloc _ _ _ hp.lt), hpd.keep (Below.heap_alloc _ _ _ hpd.lt), hu.alloc _, hm.keep (Below.heap_alloc _ _ _ hm.lt), fr.alloc _⟩

set_option maxRecDepth 100000 in
set_option maxHeartbeats 2000000 in
theorem crash_any (w : World) (F : Nat → Prop) (p : Nat) (D : Dsk) (hd : DiskAt w F p D) (kv : Value) (kept : List Bool) (torn bytes : Int) (hk : BoolsAt w kv kept) (hkF : kept ≠ [] → ∀ g, kv.ownBlock = some g → ¬ F g) (_hul : D.und.length < 1073741824) :
    Calls Tryd.prog 29 #[.pointer (some ⟨p, 0, none⟩), .agg #[kv, .int .i64 torn, .int .i64 bytes]] w fun e w' => e = .returned (.tuple #[]) ∧ DiskAt w' F p (D.crash kept torn bytes) ∧ Fr F w w' := by
  obtain ⟨pd, pm, uv, hp, hpd, hu, hm, hF, hb, hok⟩ := hd
  obtain ⟨ua, uc, rfl⟩ := own_shape hu
  obtain ⟨ka, kc, rfl, hkc, -⟩ := hk
  have lp := hp.lt
  have c1 : w.cell? ⟨p, 1, none⟩ = some (.slice ua D.und.length uc) := by rw [hp.cell]; rfl
  have HI := Lib.hid (And.intro hF (And.intro hb hok))
  have HK := Lib.hid hkc
  have HkF := Lib.hid hkF
  have HI0 : Hid (Flushing (w.alloc (.cells #[.slice ka kept.length kc, .int .i64 torn, .int .i64 bytes] 25)) F p pd pm (.slice ua D.und.length uc) D D.img (w.alloc (.cells #[.slice ka kept.length kc, .int .i64 torn, .int .i64 bytes] 25))) :=
    ⟨hp.keep (Below.heap_alloc _ _ _ hp.lt), hpd.keep (Below.heap_alloc _ _ _ hpd.lt), hu.alloc _, hm.keep (Below.heap_alloc _ _ _ hm.lt), Fr.refl _ _⟩
  clear hp hpd hu hm hF hb hok hkc hkF
  go_enter Tryd.func29, Tryd.ntmps29
  go_wp2_with (fail)
  go_loopw [12] (fun x wr => ∃ k : Nat, k ≤ D.und.length ∧ x = .int .i64 k ∧ Hid (Flushing (w.alloc (.cells #[.slice ka kept.length kc, .int .i64 torn, .int .i64 bytes] 25)) F p pd pm (.slice ua D.und.length uc) D (layDone D.img kept torn bytes (D.und.take k)) wr)) (fun x _ => D.und.length - (intOf x).toNat)
  case atStart => exact ⟨0, Nat.zero_le _, rfl, by rw [List.take_zero]; exact HI0.out⟩
  case round =>
    obtain ⟨k, hk, rfl, HR⟩ := hrel
    have hokg := HI.out.2.2
    have b2 := hokg.n2
    clear HI0
    by_cases hlt : k < D.und.length
    · obtain ⟨j, b, hkj⟩ : ∃ j b, D.und[k]? = some (j, b) := ⟨(D.und[k]).1, (D.und[k]).2, by rw [List.getElem?_eq_getElem hlt]⟩
      have hjb := hokg.und _ (List.mem_of_getElem? hkj)
      have hj : j < D.n := hjb.1
      have Hbl : Hid (b.length = 256) := hjb.2
      obtain ⟨g, cap, hv, hc1, hc2, hgl, hg⟩ := under_at HR.out.hu hokg.und k j b hkj
      cases hv
      unfold maxLen at hc2
      have c0 : wr.cell? ⟨p, 0, none⟩ = some (.slice (some ⟨pd, 0, none⟩) D.n D.n) := by rw [HR.out.hp.cell]; rfl
      have lpr := HR.out.hp.lt
      have hsw : w.heap.size + 1 ≤ wr.heap.size := by have := HR.out.fr.size; simpa using this
      have hsw2 : w.heap.size < wr.heap.size := by omega
      have nF : ¬ F w.heap.size := fun q => by have := (HI.out.2.1 _ q).2; omega
      have fc : ∀ z, wr.cell? ⟨w.heap.size, z, none⟩ = (#[.slice ka kept.length kc, .int .i64 torn, .int .i64 bytes] : Array Value)[z]? := fun z =>
        (HR.out.fr.cell (a := ⟨w.heap.size, z, none⟩) (by simp) nF).trans (cell_of_row _ _ _ _ _ _ (heap_alloc_new w _))
      have f0 : wr.cell? ⟨w.heap.size, 0, none⟩ = some (.slice ka kept.length kc) := fc 0
      have f1 : wr.cell? ⟨w.heap.size, 1, none⟩ = some (.int .i64 torn) := fc 1
      have f2 : wr.cell? ⟨w.heap.size, 2, none⟩ = some (.int .i64 bytes) := fc 2
      have Hg := Lib.hid hg
      have Hkj := Lib.hid hkj
      have HLen : Hid ((layDone D.img kept torn bytes (D.und.take k)).length = 256 * D.n) := layDone_length _ _ _ _ _ _ hokg.len (fun x hx => hokg.und x (List.mem_of_mem_take hx))
      clear hokg hjb hg hkj fc nF c1
      have HS : Hid ((wr.alloc (.cells (wayCells (j, b)).toArray 138)).drew.cell? ⟨p, 0, none⟩ = some (.slice (some ⟨pd, 0, none⟩) D.n D.n) ∧ (wr.alloc (.cells (wayCells (j, b)).toArray 138)).drew.cell? ⟨wr.heap.size, 0, none⟩ = some (.int .i64 j) ∧ (wr.alloc (.cells (wayCells (j, b)).toArray 138)).drew.rangeAt wr.heap.size 1 (bvs b)) := by
        have hrn := range_new wr (wayCells (j, b)) 138
        refine ⟨(World.cell?_of_block (w := wr) (Below.heap_alloc _ _ _ lpr)).trans c0, hrn 0 _ rfl, fun z v hz => ?_⟩
        have := hrn (z + 1) v (by simpa [wayCells] using hz)
        rw [show 1 + z = 0 + (z + 1) by omega]; exact this
      have HB2 : Hid (Blk (wr.alloc (.cells (wayCells (j, b)).toArray 138)).drew pd (bvs (layDone D.img kept torn bytes (D.und.take k))) 136) := HR.out.hpd.keep (Below.heap_alloc _ _ _ HR.out.hpd.lt)
      go_upto_region 4 with (first | ((with_reducible refine wpList_load_mid ?_ 138 (.tmp 15) ?_ g (k * 257) ?_ (wayCells (j, b)) _ Hg.out Tryd.underlying138 rfl (by rw [info_write, wayCells_len _ _ Hbl.out]) ?_); (rfl); (rfl); (rfl)) | ((with_reducible refine wpList_store_top ?_ 138 (.tmp 5) (.tmp 16) ?_ _ (wayCells (j, b)).toArray _ ?_ ?_ (by rw [Tryd.zeroCells138_size, List.size_toArray, wayCells_len _ _ Hbl.out]) (by rw [info_write, List.size_toArray, wayCells_len _ _ Hbl.out]) (all_way _) ?_); (rfl); (rfl); (rfl); (rfl)))
      go_frame
      by_cases htorn : (k : Int) = torn
      · have ht : ((k : Int) == torn) = true := by simpa using htorn
        obtain ⟨nn, hnn, hn256⟩ : ∃ nn : Nat, min (max bytes 0) 256 = nn ∧ nn ≤ 256 := ⟨(min (max bytes 0) 256).toNat, by omega, by omega⟩
        have HDn : Hid (done kept torn bytes k = nn) := by show _ = _; unfold done; rw [if_pos htorn, hnn]; rfl
        have hn1 : (0 : Int) ≤ (nn : Int) := by omega
        have hn2 : (nn : Int) ≤ 256 := by omega
        have HN := Lib.hid hnn
        have Htl : Hid ((bvs (b.take nn)).length = nn) := by show _ = _; rw [bvs_length, List.length_take, Hbl.out]; omega
        have Hrt : Hid ((wr.alloc (.cells (wayCells (j, b)).toArray 138)).drew.rangeAt wr.heap.size 1 (bvs (b.take nn))) := fun z v hz => HS.out.2.2 z v (by rw [← bvs_take] at hz; rw [List.getElem?_take] at hz; split at hz; exact hz; cases hz)
        clear hnn htorn
        go_upto_region 6 with (first | ((with_reducible refine wpList_max2 ?_ (.tmp 23) (.const (.int .i64 0)) 3 3 ?_ bytes 0 (max bytes 0) ?_ ?_ rfl ?_); (rfl); (rfl); (rfl); (rfl)) | ((with_reducible refine wpList_min2 ?_ (.tmp 24) (.const (.int .i64 256)) 3 3 ?_ (max bytes 0) 256 nn ?_ ?_ HN.out ?_); (rfl); (rfl); (rfl); (rfl)))
        refine wp_region_reads 12 12 (fun w' => w'.cell? ⟨p, 0, none⟩ = some (.slice (some ⟨pd, 0, none⟩) D.n D.n) ∧ w'.cell? ⟨wr.heap.size, 0, none⟩ = some (.int .i64 j) ∧ w'.rangeAt wr.heap.size 1 (bvs b)) (by kernel_rfl) ?_ ?_ HS.out ?_
        · kernel_rfl
        · intro c a d v w h; cases d <;> exact h
        simp only [List.take_succ_cons, List.take_zero, List.drop_succ_cons, List.drop_zero, Nat.reduceSub]
        refine readsT_move rfl _ rfl (.pointer (some ⟨p, 0, none⟩)) rfl ?_
        go_frame
        refine readsT_pure rfl rfl (.pointer (some ⟨p, 0, none⟩)) (fun w' => by go_simp) ?_
        go_frame
        refine readsT_pure rfl rfl (.pointer (some ⟨p, 0, none⟩)) (fun w' => by go_simp) ?_
        go_frame
        refine readsT_load rfl rfl (.slice (some ⟨pd, 0, none⟩) D.n D.n) (fun w' hS => by have hS1 := hS.1; clear hS; go_simp) ?_
        go_frame
        refine readsT_pure rfl rfl (.pointer (some ⟨wr.heap.size, 0, none⟩)) (fun w' => by go_simp) ?_
        go_frame
        refine readsT_load rfl rfl (.int .i64 j) (fun w' hS => by have hS1 := hS.2.1; clear hS; go_simp) ?_
        go_frame
        refine readsT_pure rfl rfl (.pointer (some ⟨pd, j * 256, none⟩)) (fun w' => by go_simp) ?_
        go_frame
        refine readsT_move rfl _ rfl (.int .i64 nn) rfl ?_
        go_frame
        refine readsT_pure rfl rfl (.slice (some ⟨pd, j * 256, none⟩) nn 256) (fun w' => by go_simp) ?_
        go_frame
        refine readsT_pure rfl rfl (.pointer (some ⟨wr.heap.size, 1, none⟩)) (fun w' => by go_simp) ?_
        go_frame
        refine readsT_move rfl _ rfl (.int .i64 nn) rfl ?_
        go_frame
        refine readsT_pure rfl rfl (.slice (some ⟨wr.heap.size, 1, none⟩) nn 256) (fun w' => by go_simp) ?_
        go_frame
        unfold readsT earlyT
        (with_reducible refine wpList_copy_mid ?_ (.tmp 34) (.tmp 37) 112 112 5 ?_ Tryd.underlying112 info_byte pd (j * 256) nn 256 wr.heap.size 1 nn 256 _ (bvs (b.take nn)) 136 ?_ ?_ HB2.out (by rw [Htl.out]; exact (Nat.min_self nn).symm) Hrt.out (by rw [Htl.out, bvs_length, HLen.out]; omega) (bvs_one _) ?_); rfl; rfl; rfl; rfl
        go_wp2
        go_roundw
        case rel =>
          refine ⟨k + 1, by omega, by go_num, ?_⟩
          rw [layDone_take _ _ _ _ _ _ _ _ Hkj.out, HDn.out]
          have := HR.out.next HI.out.1.2.1 (.cells (wayCells (j, b)).toArray 138) (j * 256) (b.take nn)
          rw [bvs_lay]
          exact this
        case measure => simp [intOf]; omega
      have ht : ((k : Int) == torn) = false := by simpa using htorn
      by_cases hkk : k < kept.length
      · obtain ⟨kb, ko, hka, hkb, hkr⟩ := HK.out (by intro e; rw [e] at hkk; simp at hkk)
        subst hka
        have fk : wr.cell? ⟨kb, ko + k, none⟩ = some (.bool kept[k]) := by
          have h1 := HR.out.fr.cell (a := ⟨kb, ko + k, none⟩) (by simp; omega) (HkF.out (by intro e; rw [e] at hkk; simp at hkk) kb rfl)
          rw [h1]
          exact (World.cell?_of_block (w := w) (Below.heap_alloc _ _ _ hkb)).trans (hkr k _ (by simp [hkk]))
        have lkb : kb < wr.heap.size := by omega
        have hd1 : decide (k < kept.length) = true := by simpa using hkk
        have HDn0 : Hid (done kept torn bytes k = if kept[k] then 256 else 0) := by show _ = _; unfold done; rw [if_neg htorn]; simp [List.getD, hkk]
        clear htorn hkr
        cases hkv : kept[k]
        · rw [hkv] at fk
          have HDn : Hid (done kept torn bytes k = 0) := by show _ = _; rw [HDn0.out, hkv]; rfl
          clear hkv HDn0
          go_wp2
          go_roundw
          case rel =>
            refine ⟨k + 1, by omega, by go_num, ?_⟩
            rw [layDone_take _ _ _ _ _ _ _ _ Hkj.out, HDn.out]
            rw [List.take_zero, lay_nil]
            exact HR.out.skip _
          case measure => simp [intOf]; omega
        rw [hkv] at fk
        have HDn : Hid (done kept torn bytes k = 256) := by show _ = _; rw [HDn0.out, hkv]; rfl
        clear hkv HDn0
        go_upto_region 8 with (fail)
        refine wp_region_reads 9 9 (fun w' => w'.cell? ⟨p, 0, none⟩ = some (.slice (some ⟨pd, 0, none⟩) D.n D.n) ∧ w'.cell? ⟨wr.heap.size, 0, none⟩ = some (.int .i64 j) ∧ w'.rangeAt wr.heap.size 1 (bvs b)) (by kernel_rfl) ?_ ?_ HS.out ?_
        · kernel_rfl
        · intro c a d v w h; cases d <;> exact h
        simp only [List.take_succ_cons, List.take_zero, List.drop_succ_cons, List.drop_zero, Nat.reduceSub]
        refine readsT_move rfl _ rfl (.pointer (some ⟨p, 0, none⟩)) rfl ?_
        go_frame
        refine readsT_pure rfl rfl (.pointer (some ⟨p, 0, none⟩)) (fun w' => by go_simp) ?_
        go_frame
        refine readsT_pure rfl rfl (.pointer (some ⟨p, 0, none⟩)) (fun w' => by go_simp) ?_
        go_frame
        refine readsT_load rfl rfl (.slice (some ⟨pd, 0, none⟩) D.n D.n) (fun w' hS => by have hS1 := hS.1; clear hS; go_simp) ?_
        go_frame
        refine readsT_pure rfl rfl (.pointer (some ⟨wr.heap.size, 0, none⟩)) (fun w' => by go_simp) ?_
        go_frame
        refine readsT_load rfl rfl (.int .i64 j) (fun w' hS => by have hS1 := hS.2.1; clear hS; go_simp) ?_
        go_frame
        refine readsT_pure rfl rfl (.pointer (some ⟨wr.heap.size, 1, none⟩)) (fun w' => by go_simp) ?_
        go_frame
        refine readsT_load_mid rfl 136 (.tmp 58) rfl wr.heap.size 1 rfl (bvs b) _ (fun w' hS => hS.2.2) Tryd.underlying136 rfl (by rw [info_block, bvs_length, Hbl.out]) ?_
        go_frame
        refine readsT_pure rfl rfl (.pointer (some ⟨pd, j * 256, none⟩)) (fun w' => by go_simp) ?_
        go_frame
        unfold readsT earlyT
        (with_reducible refine wpList_store_lay ?_ 136 (.tmp 60) (.tmp 59) ?_ pd (j * 256) _ (bvs b) 136 ?_ ?_ HB2.out (by rw [bvs_length, bvs_length, HLen.out, Hbl.out]; omega) (by rw [info_block, bvs_length, Hbl.out]) (bvs_one _) ?_); rfl; rfl; rfl; rfl
        go_wp2
        go_roundw
        case rel =>
          refine ⟨k + 1, by omega, by go_num, ?_⟩
          rw [layDone_take _ _ _ _ _ _ _ _ Hkj.out, HDn.out]
          have := HR.out.next HI.out.1.2.1 (.cells (wayCells (j, b)).toArray 138) (j * 256) b
          rw [bvs_lay]
          rw [show b.take 256 = b from List.take_of_length_le (by rw [Hbl.out]; omega)]
          exact this
        case measure => simp [intOf]; omega
      · have hd1 : decide (k < kept.length) = false := by simpa using hkk
        have HDn : Hid (done kept torn bytes k = 0) := by
          show _ = _; unfold done; rw [if_neg htorn]; simp [List.getD, List.getElem?_eq_none (show kept.length ≤ k by omega)]
        clear htorn
        go_wp2
        go_roundw
        case rel =>
          refine ⟨k + 1, by omega, by go_num, ?_⟩
          rw [layDone_take _ _ _ _ _ _ _ _ Hkj.out, HDn.out]
          rw [List.take_zero, lay_nil]
          exact HR.out.skip _
        case measure => simp [intOf]; omega
    · have hkk : k = D.und.length := by omega
      obtain ⟨Df, hDf⟩ : ∃ Df : Dsk, Df = { D with img := layDone D.img kept torn bytes D.und } := ⟨_, rfl⟩
      have hlen : (layDone D.img kept torn bytes D.und).length = 256 * D.n := layDone_length _ _ _ _ _ _ hokg.len hokg.und
      have hdr : DiskAt wr F p Df := by
        have hk2 := HR.out
        rw [hkk, List.take_length] at hk2
        rw [hDf]
        exact ⟨pd, pm, _, hk2.hp, hk2.hpd, hk2.hu, hk2.hm, HI.out.1, fun i hi => ⟨(HI.out.2.1 i hi).1, by have := (HI.out.2.1 i hi).2; have := hk2.fr.size; simp at this; omega⟩, ⟨hokg.n1, hokg.n2, hlen, hokg.und, hokg.arm1, hokg.arm2⟩⟩
      have HSt := Lib.hid (settled_any wr F p Df hdr)
      have HDf : Hid (D.crash kept torn bytes = { ({ ({ Df.clr with armed := -1 } : Dsk) with off := false } : Dsk) with life := w64 (Df.clr.life + 1) }) := by
        show _ = _
        rw [hDf]; rfl
      have HFr : Hid (Fr F w wr) := ((Fr.refl F w).alloc _).trans' HR.out.fr
      clear hokg hkk hDf hlen hdr HR
      go_upto_region 11 with (go_at_call 77; refine HSt.out.mono ?_; rintro e w2 ⟨rfl, hd2⟩; have f3 := hd2.1.cell.2.2.2.2.2 3; have f4 := hd2.1.cell.2.2.2.2.2 4; have c4 := hd2.1.cell.2.1; have c3 := hd2.1.cell.1; have c7 := hd2.1.cell.2.2.2.2.1; have f7 := hd2.1.cell.2.2.2.2.2 7; have Hd2 := Lib.hid hd2; clear hd2)
      go_wp2
      go_end0
      refine ⟨rfl, ?_, (((HFr.out.trans' Hd2.out.2).setCell (.inl HI.out.1.1) _).setCell (.inl HI.out.1.1) _).setCell (.inl HI.out.1.1) _⟩
      rw [HDf.out]
      have hg := Hd2.out.1.good
      have s4 := Hd2.out.1.store 4 (.int .i64 (-1)) { Df.clr with armed := -1 } rfl rfl rfl (fun a u m => rfl) ⟨hg.n1, hg.n2, hg.len, hg.und, by show (-1 : Int) ≤ -1; omega, by show (-1 : Int) ≤ _; omega⟩
      have s3 := s4.store 3 (.bool false) ({ ({ Df.clr with armed := -1 } : Dsk) with off := false } : Dsk) rfl rfl rfl (fun a u m => rfl) ⟨hg.n1, hg.n2, hg.len, hg.und, by show (-1 : Int) ≤ -1; omega, by show (-1 : Int) ≤ _; omega⟩
      exact s3.store 7 _ _ rfl rfl rfl (fun a u m => rfl) ⟨hg.n1, hg.n2, hg.len, hg.und, by show (-1 : Int) ≤ -1; omega, by show (-1 : Int) ≤ _; omega⟩
end Go.Proofs.YteklldbfdmaafaaDoor
/-
  The disk's Image.
-/
namespace Go.Proofs.YteklldbfdmaafaaDoor
open Go Go.RowKit
theorem info_byte3 : (Tryd.prog.info? 5).map (fun i => (i.zero.map (·.cells.size), i.size, i.bytes)) = some (some 1, 1, 1) := by kernel_rfl

set_option maxRecDepth 100000 in
set_option maxHeartbeats 1000000 in
theorem image_any (w : World) (F : Nat → Prop) (p : Nat) (D : Dsk) (hd : DiskAt w F p D) :
    Calls Tryd.prog 27 #[.pointer (some ⟨p, 0, none⟩)] w fun e w' => e = .returned (.string ⟨D.img.toArray⟩) ∧ Fr noB w w' := by
  obtain ⟨pd, pm, uv, hp, hpd, hu, hm, hF, hb, hok⟩ := hd
  have c0 : w.cell? ⟨p, 0, none⟩ = some (.slice (some ⟨pd, 0, none⟩) D.n D.n) := by rw [hp.cell]; rfl
  have lp := hp.lt
  have b2 := hok.n2
  have HI := Lib.hid (And.intro hpd hok)
  clear hp hpd hu hm hF hb hok
  go_enter Tryd.func27, Tryd.ntmps27
  go_upto_region 2 with (first | ((with_reducible refine wpList_make_empty ?_ (.const (.int .i64 0)) (.tmp 11) 112 5 ?_ Tryd.underlying112 1 1 info_byte3 ((D.n : Int) * 256) (D.n * 256) ?_ ?_ (by omega) (by omega) (by unfold maxLen; omega) ?_); (rfl); (rfl); (rfl); (rfl); (intro w1 hw1)))
  have sz1 : w.heap.size ≤ w1.heap.size := hw1.out.2.size
  have d0 : w1.cell? ⟨p, 0, none⟩ = some (.slice (some ⟨pd, 0, none⟩) D.n D.n) := (World.cell?_of_block (hw1.out.2.block p lp (by simp))).trans c0
  clear c0
  go_wp2_with (fail)
  go_loopw [3, 18] (fun v x wr => ∃ k : Nat, k ≤ D.n ∧ x = .int .i64 k ∧ (∃ a c, v = .slice a (k * 256) c) ∧ Hid (wr.ownsRow 0 5 1 v (k * 256) (bvs (D.img.take (k * 256))) ∧ Fr noB w wr ∧ ∀ g, v.ownBlock = some g → w.heap.size ≤ g)) (fun _ x _ => D.n - (intOf x).toNat)
  case atStart => exact ⟨0, Nat.zero_le _, rfl, ⟨_, _, by rw [Nat.zero_mul]⟩, by rw [Nat.zero_mul, List.take_zero]; exact hw1.out.1, (Fr.refl _ _).grown hw1.out.2 (fun k hk => by cases hk), fun g hg => by cases hg; exact Nat.le_refl _⟩
  case round =>
    obtain ⟨k, hk, rfl, ⟨va, vc, rfl⟩, HR⟩ := hrel
    have hokl := HI.out.2.len
    by_cases hlt : k < D.n
    · obtain ⟨bs, hbs⟩ : ∃ bs, bs = cut D.img (k * 256) 256 := ⟨_, rfl⟩
      have Hbl : Hid (bs.length = 256) := by rw [hbs]; exact cut_length _ _ _ (by omega)
      have HRg : Hid (wr.rangeAt pd (k * 256) (bvs bs)) := by
        intro z v hz
        have h1 := HI.out.1.range (o := k * 256) (n := 256)
        rw [bvs_drop, bvs_take] at h1
        rw [hbs] at hz
        rw [HR.out.2.1.cell (a := ⟨pd, k * 256 + z, none⟩) HI.out.1.lt id]
        exact h1 z v hz
      have Htk : Hid (D.img.take ((k + 1) * 256) = D.img.take (k * 256) ++ bs) := by
        rw [hbs]; show _ = _; rw [cut, Nat.succ_mul, List.take_add]
      have HO : Hid ((wr.alloc (.cells (bvs bs).toArray 136)).ownsRow 0 5 1 (.slice va (k * 256) vc) (k * 256) (bvs (D.img.take (k * 256)))) := HR.out.1.alloc _
      have HN := Lib.hid (range_new wr (bvs bs) 136)
      clear hbs hokl
      go_upto_region 5 with (first | ((with_reducible refine wpList_load_mid ?_ 136 (.tmp 20) ?_ pd (k * 256) ?_ (bvs bs) _ HRg.out Tryd.underlying136 rfl (by rw [info_block, bvs_length, Hbl.out]) ?_); (rfl); (rfl); (rfl)) | ((with_reducible refine wpList_store_top ?_ 136 (.tmp 5) (.tmp 21) ?_ _ (bvs bs).toArray _ ?_ ?_ (by rw [Tryd.zeroCells136_size, List.size_toArray, bvs_length, Hbl.out]) (by rw [info_block, List.size_toArray, bvs_length, Hbl.out]) (all_bvs _) ?_); (rfl); (rfl); (rfl); (rfl)))
      go_frame
      go_upto_region 6 with ((with_reducible refine wpList_append_row ?_ (.tmp 22) (.tmp 23) 112 5 ?_ Tryd.underlying112 1 1 info_byte3 (by omega) (.slice va (k * 256) vc) (k * 256) (bvs (D.img.take (k * 256))) ?_ HO.out wr.heap.size 0 256 256 (bvs bs) ?_ (by rw [bvs_length, Hbl.out]) HN.out (bvs_one _) (by unfold maxLen; omega) (by omega) ?_); (rfl); (rfl); (rfl); (rfl); (intro v2 w2 hw2))
      go_wp2
      go_roundw
      case rel =>
        obtain ⟨h1, h2, h3⟩ := hw2
        refine ⟨k + 1, by omega, by go_num, ?_, ?_, ?_, ?_⟩
        · rw [Nat.succ_mul]; exact own_shape h1
        · rw [Htk.out, bvs_append, Nat.succ_mul]; exact h1
        · exact (HR.out.2.1.alloc _).grown h2 (fun g hg => .inr (HR.out.2.2 g hg))
        · intro g hg
          have := HR.out.2.1.size
          rcases h3 with h3 | h3
          · rw [h3] at hg; exact HR.out.2.2 g hg
          · rw [h3] at hg; simp at hg; omega
      case measure => simp [intOf]; omega
    · have hkk : k = D.n := by omega
      have n1 := HI.out.2.n1
      subst hkk
      obtain ⟨g, cap, hv, _, hg⟩ := own_range HR.out.1 (by omega)
      cases hv
      have Hg : Hid (wr.rangeAt g 0 (bvs D.img)) := by
        have e : D.img.take (D.n * 256) = D.img := List.take_of_length_le (by omega)
        rw [e] at hg; exact hg
      have Hl : Hid (D.n * 256 = D.img.length) := by show _ = _; omega
      clear hg hokl
      go_wp2_with ((with_reducible refine wpList_bytes_string ?_ 112 9 5 (.tmp 26) ?_ Tryd.underlying112 Tryd.underlying5 Tryd.underlying9 g 0 (D.n * 256) vc D.img ?_ Hl.out Hg.out ?_); (rfl); (rfl); (rfl))
      go_ret
      exact ⟨rfl, HR.out.2.1⟩
end Go.Proofs.YteklldbfdmaafaaDoor
/-
  A new disk.
-/
namespace Go.Proofs.YteklldbfdmaafaaDoor
open Go Go.RowKit
theorem made_zeros (m n : Nat) (hm : 0 < m) : (madeCells (bvs (zs m)).toArray n).toList = bvs (zs n) := by
  have e : bvs (zs n) = List.replicate n (bv 0) := by simp [bvs, zs]
  rw [e, List.eq_replicate_iff]
  refine ⟨by simp [madeCells], fun b hb => ?_⟩
  simp only [madeCells, Array.toList_map, Array.toList_range, List.mem_map, List.mem_range, List.size_toArray, bvs_length, zs_length] at hb
  obtain ⟨i, _, rfl⟩ := hb
  have hlt : i % m < m := Nat.mod_lt _ hm
  have h2 : (bvs (zs m))[i % m]? = some (bv 0) := by simp [bvs, zs, hlt]
  simp [Array.getElem!_eq_getD, Array.getD_eq_getD_getElem?, h2]
theorem info_block3 : (Tryd.prog.info? 136).map (fun i => (i.zero.map (·.cells), i.size, i.bytes)) = some (some (bvs (zs 256)).toArray, 256, 256) := by kernel_rfl

set_option maxRecDepth 100000 in
theorem blank_any (w : World) (n : Nat) (h1 : 1 ≤ n) (h2 : n ≤ 65536) (hg : gB ≤ w.heap.size) :
    Calls Tryd.prog 79 #[.int .i64 n] w fun e w' => ∃ p F, e = .returned (.pointer (some ⟨p, 0, none⟩)) ∧ DiskAt w' F p (Dsk.blank n) ∧ Fr noB w w' ∧ ∀ k, F k → w.heap.size ≤ k := by
  have hmm := @run_makeMap Tryd.prog
  have Hg := Lib.hid hg
  clear hg
  go_enter Tryd.func79, Tryd.ntmps79
  go_wp2_with (first | ((with_reducible refine wpList_make_zero ?_ (.tmp 3) (.tmp 3) 130 136 ?_ Tryd.underlying130 256 256 (bvs (zs 256)).toArray info_block3 (n : Int) n ?_ ?_ rfl (by omega) (by unfold maxLen; omega) ?_); (rfl); (rfl); (rfl); (rfl); (intro w1 hw1)))
  go_ret
  obtain ⟨hb, hgr⟩ := hw1
  rw [made_zeros 256 _ (by omega)] at hb
  have sz : w.heap.size < w1.heap.size := hb.lt
  refine ⟨w1.heap.size + 1, fun k => w.heap.size ≤ k ∧ k < w1.heap.size + 2, rfl, ⟨w.heap.size, w1.heap.size, .slice none 0 0, ?_, ?_, World.ownsRow_nil _ _ _ _, ?_, ⟨⟨by omega, by omega⟩, ⟨by omega, by omega⟩, ⟨by omega, by omega⟩, fun g hg => by simp [Value.ownBlock] at hg⟩, fun k hk => ⟨by have := Hg.out; omega, by simp; omega⟩, Dsk.blank_ok n h1 h2⟩, ?_, fun k hk => hk.1⟩
  · have := heap_alloc_new (w1.alloc (.map #[] 0)) (.cells #[.slice (some ⟨w.heap.size, 0, none⟩) n n, .slice none 0 0, .map (some w1.heap.size), .bool false, .int .i64 (-1), .int .i64 0, .int .i64 0, .int .i64 0] 134)
    simpa [Blk, Dsk.blank] using this
  · have e : Blk w1 w.heap.size (bvs (Dsk.blank n).img) 136 := by
      show Blk w1 w.heap.size (bvs (zs (256 * n))) _
      rw [Nat.mul_comm]; exact hb
    exact e.keep ((Below.heap_alloc _ _ _ (by simp; omega)).trans (Below.heap_alloc _ _ _ sz))
  · refine ⟨.map [], ((World.ownsMap_made w1 _ _ _).alloc _).mono (Nat.zero_le _), fun i => ⟨rfl, rfl⟩⟩
  · exact (((Fr.refl noB w).grown hgr (fun k hk => by cases hk)).alloc _).alloc _

theorem new_bad (w : World) (n : Int) (E : Nat → Addr) (h6 : ErrAt w E 6) (h : n < 1 ∨ 65536 < n) :
    Calls Tryd.prog 33 #[.int .i64 n] w fun e w' => e = .returned (.tuple #[.pointer none, errV E 6]) ∧ Fr noB w w' := by
  have e6 : w.cell? ⟨3, 0, none⟩ = some (errV E 6) := h6
  clear h6
  by_cases h1 : n < 1
  · have hd : decide (n < 1) = true := by simpa using h1
    clear h
    go_enter Tryd.func33, Tryd.ntmps33
    go_wp2
    go_quiet (fail)
    all_goals go_wp2
    all_goals go_ret2
    all_goals exact ⟨rfl, (Fr.refl _ _).drewN _⟩
  · have h2 : 65536 < n := by omega
    have hd : decide (n < 1) = false := by simpa using h1
    clear h
    go_enter Tryd.func33, Tryd.ntmps33
    go_wp2
    go_quiet (fail)
    all_goals go_wp2
    all_goals go_ret2
    all_goals exact ⟨rfl, (Fr.refl _ _).drewN _⟩
theorem new_ok (w : World) (n : Nat) (h1 : 1 ≤ n) (h2 : n ≤ 65536) (hg : gB ≤ w.heap.size) :
    Calls Tryd.prog 33 #[.int .i64 n] w fun e w' => ∃ p F, e = .returned (.tuple #[.pointer (some ⟨p, 0, none⟩), .nilIface]) ∧ DiskAt w' F p (Dsk.blank n) ∧ Fr noB w w' ∧ ∀ k, F k → w.heap.size ≤ k := by
  have HB := Lib.hid (blank_any w n h1 h2 hg)
  clear hg
  go_enter Tryd.func33, Tryd.ntmps33
  go_wp2_with (go_at_call 79; refine HB.out.mono ?_; rintro e w1 ⟨p, F, rfl, hq⟩; have Hq := Lib.hid hq; clear hq)
  all_goals go_ret2
  all_goals exact ⟨p, F, rfl, Hq.out⟩
end Go.Proofs.YteklldbfdmaafaaDoor
/-
  A disk of durable bytes.
-/
namespace Go.Proofs.YteklldbfdmaafaaDoor
open Go Go.RowKit
theorem Flushing.laid {w wr : World} {F : Nat → Prop} {p pd pm : Nat} {uv : Value} {D : Dsk} {img img' : List UInt8} (h : Flushing w F p pd pm uv D img wr) (hF : F pd) :
    Flushing w F p pd pm uv D img' (wr.drew.setRow pd (bvs img').toArray) := by
  obtain ⟨hp, hpd, hu, hm, fr⟩ := h
  have n1 : p ≠ pd := hp.ne hpd (by decide)
  have n3 : pm ≠ pd := by obtain ⟨_, ⟨_, _, h, _⟩, _⟩ := hm; exact hpd.ne_map h
  have k : ∀ i, i ≠ pd → (wr.drew.setRow pd (bvs img').toArray).heap[i]? = wr.heap[i]? := fun i h2 => setRow_other _ _ _ _ h2
  have hpd' : Blk wr.drew pd (bvs img) 136 := hpd
  exact ⟨hp.keep (k p n1), hpd'.row _, ownsRow_keep hu (fun g hg => k g (hpd.ne_row hu hg (by decide))), hm.keep (k pm n3), (fr.drew).setRow (.inl hF) _⟩

/-- k sectors are there -/
def part (l : List UInt8) (n k : Nat) : List UInt8 := l.take (k * 256) ++ zs (n * 256 - k * 256)
end Go.Proofs.YteklldbfdmaafaaDoor
/-
  The errors' numbers: remitnum.Num.
-/
namespace Go.Proofs.YteklldbfdmaafaaDoor
open Go Go.RowKit
/-- all 37 errors lie in their variables, each its own -/
structure ErrsAt (w : World) (E : Nat → Addr) : Prop where
  at_ : ∀ k, 1 ≤ k → k ≤ 37 → ErrAt w E k
  obj : ∀ k, 1 ≤ k → k ≤ 37 → ∃ ca ta, w.heap[(E k).block]? = some (.cells ca ta (0, 0))
  inj : ∀ j k, 1 ≤ j → j ≤ 37 → 1 ≤ k → k ≤ 37 → E j = E k → j = k
def errList (E : Nat → Addr) : List Value := [errV E 1, errV E 2, errV E 3, errV E 4, errV E 5, errV E 6, errV E 7, errV E 8, errV E 9, errV E 10, errV E 11, errV E 12, errV E 13, errV E 14, errV E 15, errV E 16, errV E 17, errV E 18, errV E 19, errV E 20, errV E 21, errV E 22, errV E 23, errV E 24, errV E 25, errV E 26, errV E 27, errV E 28, errV E 29, errV E 30, errV E 31, errV E 32, errV E 33, errV E 34, errV E 35, errV E 36, errV E 37]
theorem built_list (E : Nat → Addr) : Tryd.prog.built 141 [(0, errV E 1), (1, errV E 2), (2, errV E 3), (3, errV E 4), (4, errV E 5), (5, errV E 6), (6, errV E 7), (7, errV E 8), (8, errV E 9), (9, errV E 10), (10, errV E 11), (11, errV E 12), (12, errV E 13), (13, errV E 14), (14, errV E 15), (15, errV E 16), (16, errV E 17), (17, errV E 18), (18, errV E 19), (19, errV E 20), (20, errV E 21), (21, errV E 22), (22, errV E 23), (23, errV E 24), (24, errV E 25), (25, errV E 26), (26, errV E 27), (27, errV E 28), (28, errV E 29), (29, errV E 30), (30, errV E 31), (31, errV E 32), (32, errV E 33), (33, errV E 34), (34, errV E 35), (35, errV E 36), (36, errV E 37)] = some (errList E).toArray := by kernel_rfl

theorem errList_one (E : Nat → Addr) : (errList E).toArray.all (·.oneCell') = true := by kernel_rfl
set_option maxRecDepth 100000 in
set_option maxHeartbeats 1000000 in
theorem list_any (w : World) (E : Nat → Addr) (h : ∀ k, 1 ≤ k → k ≤ 37 → ErrAt w E k) (hg : gB ≤ w.heap.size) :
    Calls Tryd.prog 80 #[] w fun e w' => e = .returned (.agg (errList E).toArray) ∧ Fr noB w w' := by
  unfold gB at hg
  have e1 : w.cell? ⟨7, 0, none⟩ = some (errV E 1) := h 1 (by omega) (by omega)
  have l1 : 7 < w.heap.size := by omega
  have e2 : w.cell? ⟨8, 0, none⟩ = some (errV E 2) := h 2 (by omega) (by omega)
  have l2 : 8 < w.heap.size := by omega
  have e3 : w.cell? ⟨0, 0, none⟩ = some (errV E 3) := h 3 (by omega) (by omega)
  have l3 : 0 < w.heap.size := by omega
  have e4 : w.cell? ⟨9, 0, none⟩ = some (errV E 4) := h 4 (by omega) (by omega)
  have l4 : 9 < w.heap.size := by omega
  have e5 : w.cell? ⟨10, 0, none⟩ = some (errV E 5) := h 5 (by omega) (by omega)
  have l5 : 10 < w.heap.size := by omega
  have e6 : w.cell? ⟨3, 0, none⟩ = some (errV E 6) := h 6 (by omega) (by omega)
  have l6 : 3 < w.heap.size := by omega
  have e7 : w.cell? ⟨4, 0, none⟩ = some (errV E 7) := h 7 (by omega) (by omega)
  have l7 : 4 < w.heap.size := by omega
  have e8 : w.cell? ⟨11, 0, none⟩ = some (errV E 8) := h 8 (by omega) (by omega)
  have l8 : 11 < w.heap.size := by omega
  have e9 : w.cell? ⟨12, 0, none⟩ = some (errV E 9) := h 9 (by omega) (by omega)
  have l9 : 12 < w.heap.size := by omega
  have e10 : w.cell? ⟨13, 0, none⟩ = some (errV E 10) := h 10 (by omega) (by omega)
  have l10 : 13 < w.heap.size := by omega
  have e11 : w.cell? ⟨14, 0, none⟩ = some (errV E 11) := h 11 (by omega) (by omega)
  have l11 : 14 < w.heap.size := by omega
  have e12 : w.cell? ⟨2, 0, none⟩ = some (errV E 12) := h 12 (by omega) (by omega)
  have l12 : 2 < w.heap.size := by omega
  have e13 : w.cell? ⟨15, 0, none⟩ = some (errV E 13) := h 13 (by omega) (by omega)
  have l13 : 15 < w.heap.size := by omega
  have e14 : w.cell? ⟨1, 0, none⟩ = some (errV E 14) := h 14 (by omega) (by omega)
  have l14 : 1 < w.heap.size := by omega
  have e15 : w.cell? ⟨5, 0, none⟩ = some (errV E 15) := h 15 (by omega) (by omega)
  have l15 : 5 < w.heap.size := by omega
  have e16 : w.cell? ⟨16, 0, none⟩ = some (errV E 16) := h 16 (by omega) (by omega)
  have l16 : 16 < w.heap.size := by omega
  have e17 : w.cell? ⟨6, 0, none⟩ = some (errV E 17) := h 17 (by omega) (by omega)
  have l17 : 6 < w.heap.size := by omega
  have e18 : w.cell? ⟨17, 0, none⟩ = some (errV E 18) := h 18 (by omega) (by omega)
  have l18 : 17 < w.heap.size := by omega
  have e19 : w.cell? ⟨18, 0, none⟩ = some (errV E 19) := h 19 (by omega) (by omega)
  have l19 : 18 < w.heap.size := by omega
  have e20 : w.cell? ⟨19, 0, none⟩ = some (errV E 20) := h 20 (by omega) (by omega)
  have l20 : 19 < w.heap.size := by omega
  have e21 : w.cell? ⟨20, 0, none⟩ = some (errV E 21) := h 21 (by omega) (by omega)
  have l21 : 20 < w.heap.size := by omega
  have e22 : w.cell? ⟨21, 0, none⟩ = some (errV E 22) := h 22 (by omega) (by omega)
  have l22 : 21 < w.heap.size := by omega
  have e23 : w.cell? ⟨22, 0, none⟩ = some (errV E 23) := h 23 (by omega) (by omega)
  have l23 : 22 < w.heap.size := by omega
  have e24 : w.cell? ⟨23, 0, none⟩ = some (errV E 24) := h 24 (by omega) (by omega)
  have l24 : 23 < w.heap.size := by omega
  have e25 : w.cell? ⟨24, 0, none⟩ = some (errV E 25) := h 25 (by omega) (by omega)
  have l25 : 24 < w.heap.size := by omega
  have e26 : w.cell? ⟨25, 0, none⟩ = some (errV E 26) := h 26 (by omega) (by omega)
  have l26 : 25 < w.heap.size := by omega
  have e27 : w.cell? ⟨26, 0, none⟩ = some (errV E 27) := h 27 (by omega) (by omega)
  have l27 : 26 < w.heap.size := by omega
  have e28 : w.cell? ⟨27, 0, none⟩ = some (errV E 28) := h 28 (by omega) (by omega)
  have l28 : 27 < w.heap.size := by omega
  have e29 : w.cell? ⟨28, 0, none⟩ = some (errV E 29) := h 29 (by omega) (by omega)
  have l29 : 28 < w.heap.size := by omega
  have e30 : w.cell? ⟨29, 0, none⟩ = some (errV E 30) := h 30 (by omega) (by omega)
  have l30 : 29 < w.heap.size := by omega
  have e31 : w.cell? ⟨30, 0, none⟩ = some (errV E 31) := h 31 (by omega) (by omega)
  have l31 : 30 < w.heap.size := by omega
  have e32 : w.cell? ⟨31, 0, none⟩ = some (errV E 32) := h 32 (by omega) (by omega)
  have l32 : 31 < w.heap.size := by omega
  have e33 : w.cell? ⟨32, 0, none⟩ = some (errV E 33) := h 33 (by omega) (by omega)
  have l33 : 32 < w.heap.size := by omega
  have e34 : w.cell? ⟨33, 0, none⟩ = some (errV E 34) := h 34 (by omega) (by omega)
  have l34 : 33 < w.heap.size := by omega
  have e35 : w.cell? ⟨34, 0, none⟩ = some (errV E 35) := h 35 (by omega) (by omega)
  have l35 : 34 < w.heap.size := by omega
  have e36 : w.cell? ⟨35, 0, none⟩ = some (errV E 36) := h 36 (by omega) (by omega)
  have l36 : 35 < w.heap.size := by omega
  have e37 : w.cell? ⟨36, 0, none⟩ = some (errV E 37) := h 37 (by omega) (by omega)
  have l37 : 36 < w.heap.size := by omega
  clear h hg
  go_enter Tryd.func80, Tryd.ntmps80
  go_wp2_with (first | ((with_reducible refine wpList_store_top ?_ 141 (.tmp 0) (.tmp 38) ?_ _ (errList E).toArray _ ?_ ?_ rfl (by kernel_rfl) (errList_one E) ?_); (rfl); (rfl); (rfl); (rfl)) | ((with_reducible refine wpList_build_as ?_ 141 [(0, .tmp 1), (1, .tmp 2), (2, .tmp 3), (3, .tmp 4), (4, .tmp 5), (5, .tmp 6), (6, .tmp 7), (7, .tmp 8), (8, .tmp 9), (9, .tmp 10), (10, .tmp 11), (11, .tmp 12), (12, .tmp 13), (13, .tmp 14), (14, .tmp 15), (15, .tmp 16), (16, .tmp 17), (17, .tmp 18), (18, .tmp 19), (19, .tmp 20), (20, .tmp 21), (21, .tmp 22), (22, .tmp 23), (23, .tmp 24), (24, .tmp 25), (25, .tmp 26), (26, .tmp 27), (27, .tmp 28), (28, .tmp 29), (29, .tmp 30), (30, .tmp 31), (31, .tmp 32), (32, .tmp 33), (33, .tmp 34), (34, .tmp 35), (35, .tmp 36), (36, .tmp 37)] ?_ (errList E).toArray ?_ ?_); (rfl); (rfl); (exact built_list E)))
  try go_frame
  exact bodyPost_ret (v := .agg (errList E).toArray) (results_cell_row (p := 0) (ty := 141) (by kernel_rfl) _ _ w.heap.size _ _ _ _ rfl (heap_alloc_new w _) Tryd.underlying141 rfl (by kernel_rfl)) rfl ⟨rfl, (Fr.refl _ _).alloc _⟩

theorem errV_pos (E : Nat → Addr) (k : Nat) (hk : 1 ≤ k) : errV E k = .iface 204 (.pointer (some (E k))) := by
  unfold errV; rw [if_neg (by omega)]
theorem errList_get (E : Nat → Addr) (j : Nat) (hj : j < 37) : (errList E)[j]? = some (.iface 204 (.pointer (some (E (j + 1))))) := by
  have e : errList E = (List.range 37).map (fun i => errV E (i + 1)) := rfl
  rw [e, List.getElem?_map, List.getElem?_range hj, Option.map_some, errV_pos _ _ (by omega)]
theorem isAgg_error (w : World) : (isAgg 31).run Tryd.prog w = .ok false w := by kernel_rfl
theorem info_some {P : Program} {α : Type} {t : TypeId} {f : TypeInfo → α} {x : α} (h : (P.info? t).map f = some x) : ∃ i, P.info? t = some i ∧ f i = x := by
  cases hq : P.info? t with
  | none => simp [hq] at h
  | some i => exact ⟨i, rfl, by simpa [hq] using h⟩
theorem infoErr : (Tryd.prog.info? 204).map (·.comparable) = some true := by kernel_rfl
theorem infoErrS : (Tryd.prog.info? 218).map (·.size) = some 1 := by kernel_rfl
theorem eql_same (w : World) (b : Addr) : (binOp .eql 31 (.iface 204 (.pointer (some b))) (.iface 204 (.pointer (some b)))).run Tryd.prog w = .ok (.bool true) w := by
  obtain ⟨i, hi, hc⟩ := info_some infoErr
  obtain ⟨j, hj, _⟩ := info_some infoErrS
  exact run_eql_iface_ptr_same w _ Tryd.underlying31 Tryd.underlying204 hi hc hj
theorem eql_other (w : World) (b c : Addr) (hne : b ≠ c) {ca cb : Array Value} {ta tb : TypeId} (hb : w.heap[b.block]? = some (.cells ca ta (0, 0))) (hcc : w.heap[c.block]? = some (.cells cb tb (0, 0))) :
    (binOp .eql 31 (.iface 204 (.pointer (some b))) (.iface 204 (.pointer (some c)))).run Tryd.prog w = .ok (.bool false) w := by
  obtain ⟨i, hi, hc⟩ := info_some infoErr
  obtain ⟨j, hj, hz⟩ := info_some infoErrS
  exact run_eql_iface_ptr_other w Tryd.underlying31 Tryd.underlying204 hi hc hj (by rw [hz]; decide) hne hb hcc

set_option maxRecDepth 100000 in
theorem num_nil (w : World) : Calls Tryd.prog 35 #[.nilIface] w fun e w' => e = .returned (.int .i64 0) ∧ w = w' := by
  go_enter Tryd.func35, Tryd.ntmps35
  go_wp2
  go_ret
  exact ⟨rfl, rfl⟩
set_option maxRecDepth 100000 in
set_option maxHeartbeats 1000000 in
theorem num_err (w : World) (E : Nat → Addr) (hE : ErrsAt w E) (hg : gB ≤ w.heap.size) (k : Nat) (h1 : 1 ≤ k) (h2 : k ≤ 37) :
    Calls Tryd.prog 35 #[.iface 204 (.pointer (some (E k)))] w fun e w' => e = .returned (.int .i64 k) ∧ Fr noB w w' := by
  have HL := Lib.hid (list_any w E hE.at_ hg)
  have HE := Lib.hid hE
  clear hE hg
  go_enter Tryd.func35, Tryd.ntmps35
  go_wp2_with (go_at_call 80; refine HL.out.mono ?_; rintro e w1 ⟨rfl, hf⟩; have Hf := Lib.hid hf; clear hf)
  go_loopw [8] (fun x wr => ∃ j : Nat, j < k ∧ x = .int .i64 j ∧ wr = w1) (fun x _ => k - (intOf x).toNat)
  case atStart => exact ⟨0, by omega, rfl, rfl⟩
  case round =>
    obtain ⟨j, hj, rfl, rfl⟩ := hrel
    by_cases hjk : j + 1 = k
    · subst hjk
      have he := eql_same wr (E (j + 1))
      go_wp2_with (first | ((with_reducible refine wpList_index_cell ?_ 141 31 (.tmp 7) (.tmp 8) ?_ 37 Tryd.underlying141 (isAgg_error _) (by kernel_rfl) (errList E) j ?_ ?_ (by omega) _ (errList_get E j (by omega)) ?_); (rfl); (rfl); (rfl); (rfl)))
      go_ret
      exact ⟨rfl, Hf.out⟩
    · have hne : E k ≠ E (j + 1) := fun e => hjk (HE.out.inj _ _ (by omega) (by omega) h1 h2 e.symm)
      obtain ⟨ca, ta, ha⟩ := HE.out.obj k h1 h2
      obtain ⟨cb, tb, hb⟩ := HE.out.obj (j + 1) (by omega) (by omega)
      have ha1 := (Hf.out.block _ (Array.getElem?_eq_some_iff.1 ha).1 id).trans ha
      have hb1 := (Hf.out.block _ (Array.getElem?_eq_some_iff.1 hb).1 id).trans hb
      have he := eql_other wr (E k) (E (j + 1)) hne ha1 hb1
      clear ha hb ha1 hb1 hne
      go_wp2_with (first | ((with_reducible refine wpList_index_cell ?_ 141 31 (.tmp 7) (.tmp 8) ?_ 37 Tryd.underlying141 (isAgg_error _) (by kernel_rfl) (errList E) j ?_ ?_ (by omega) _ (errList_get E j (by omega)) ?_); (rfl); (rfl); (rfl); (rfl)))
      go_roundw
      case rel => exact ⟨j + 1, by omega, by go_num, by first | rfl | trivial⟩
      case measure => simp [intOf]; omega
theorem num_any (w : World) (E : Nat → Addr) (hE : ErrsAt w E) (hg : gB ≤ w.heap.size) (k : Nat) (h2 : k ≤ 37) :
    Calls Tryd.prog 35 #[errV E k] w fun e w' => e = .returned (.int .i64 k) ∧ Fr noB w w' := by
  by_cases h : k = 0
  · subst h
    refine (num_nil w).mono ?_
    rintro e w' ⟨rfl, rfl⟩
    exact ⟨rfl, Fr.refl _ _⟩
  · rw [errV_pos _ _ (by omega)]
    exact num_err w E hE hg k (by omega) h2
end Go.Proofs.YteklldbfdmaafaaDoor
/-
  The law's own helpers: what an op writes; a fate with spare room.
-/
namespace Go.Proofs.YteklldbfdmaafaaDoor
open Go Go.RowKit
/-- what an op writes -/
def fillOf (fill : UInt8) : List UInt8 := (List.range 256).map fun i => fill + UInt8.ofNat (i / 16)
def secOf (s : List UInt8) (fill : UInt8) : List UInt8 := if s = [] then fillOf fill else s
end Go.Proofs.YteklldbfdmaafaaDoor
/-
  The scripts of the laws of chapter 6: calls as plain data, and how they lie in memory.
-/
namespace Go.Proofs.YteklldbfdmaafaaDoor
open Go Go.RowKit
/-- a call of a script -/
structure POp where
  kind : Int
  i : Int
  s : List UInt8
  fill : UInt8
  kept : List Bool
  torn : Int
  bytes : Int

/-- its seven cells -/
def POp.cells (o : POp) (kv : Value) : List Value := [.int .i64 o.kind, .int .i64 o.i, .string ⟨o.s.toArray⟩, .int .u8 o.fill.toNat, kv, .int .i64 o.torn, .int .i64 o.bytes]
/-- the bytes it writes -/
def POp.sec (o : POp) : List UInt8 := secOf o.s o.fill

/-- the script's cells at an address, and the Kept slices that they hold -/
def OpsAt (w : World) (b o : Nat) (ops : List POp) : Prop :=
  ∀ k op, ops[k]? = some op → ∃ kv, w.rangeAt b (o + 7 * k) (op.cells kv) ∧ BoolsAt w kv op.kept
def ScriptAt (w : World) (v : Value) (ops : List POp) : Prop :=
  ∃ a c, v = .slice a ops.length c ∧ (ops ≠ [] → ∃ b o, a = some ⟨b, o, none⟩ ∧ b < w.heap.size ∧ OpsAt w b o ops)

theorem range_keep {w w' : World} {b o : Nat} {cs : List Value} (h : w.rangeAt b o cs) (e : w'.heap[b]? = w.heap[b]?) : w'.rangeAt b o cs := by
  intro j v hj
  have := h j v hj
  unfold World.cell? at this ⊢
  rw [show (⟨b, o + j, none⟩ : Addr).block = b from rfl] at this ⊢
  rw [e]; exact this
theorem BoolsAt.keepB {w w' : World} {kv : Value} {l : List Bool} (h : BoolsAt w kv l) (hs : w.heap.size ≤ w'.heap.size) (hk : ∀ g, g < w.heap.size → w'.heap[g]? = w.heap[g]?) : BoolsAt w' kv l := by
  obtain ⟨a, c, rfl, h1, h2, h3⟩ := h
  refine ⟨a, c, rfl, fun hl => ?_, h2, h3⟩
  obtain ⟨b, o, rfl, hb, hr⟩ := h1 hl
  exact ⟨b, o, rfl, by omega, range_keep hr (hk b hb)⟩
theorem ScriptAt.keep {w w' : World} {v : Value} {ops : List POp} (h : ScriptAt w v ops) (hs : w.heap.size ≤ w'.heap.size) (hk : ∀ g, g < w.heap.size → w'.heap[g]? = w.heap[g]?) : ScriptAt w' v ops := by
  obtain ⟨a, c, rfl, h1⟩ := h
  refine ⟨a, c, rfl, fun hl => ?_⟩
  obtain ⟨b, o, rfl, hb, ho⟩ := h1 hl
  refine ⟨b, o, rfl, by omega, fun k op hop => ?_⟩
  obtain ⟨kv, h3, h4⟩ := ho k op hop
  exact ⟨kv, range_keep h3 (hk b hb), h4.keepB hs hk⟩
theorem ErrsAt.keepB {w w' : World} {E : Nat → Addr} (h : ErrsAt w E) (hs : w.heap.size ≤ w'.heap.size) (hk : ∀ g, g < w.heap.size → w'.heap[g]? = w.heap[g]?) : ErrsAt w' E := by
  have _ := hs
  refine ⟨fun k h1 h2 => ?_, fun k h1 h2 => ?_, h.inj⟩
  · have h3 := h.at_ k h1 h2
    unfold ErrAt at h3 ⊢
    have hb := block_lt_of_cell h3
    rw [World.cell?_of_block (w := w) (hk _ hb)]
    exact h3
  · obtain ⟨ca, ta, h3⟩ := h.obj k h1 h2
    exact ⟨ca, ta, (hk _ (Array.getElem?_eq_some_iff.1 h3).1).trans h3⟩

/-- what 'made' does with a call -/
def POp.make (n : Nat) (o : POp) (D : Dsk) : Dsk :=
  if o.kind = 1 then D.writeD (((o.i % 18446744073709551616).toNat % n : Nat) : Int) o.sec
  else if o.kind = 2 then D.flushD
  else if o.kind = 4 then D.crash o.kept o.torn o.bytes
  else D
end Go.Proofs.YteklldbfdmaafaaDoor
/-
  The disk's methods as contracts over parts of memory.
-/
namespace Go.Proofs.YteklldbfdmaafaaDoor
open Go Go.RowKit
theorem DiskAt.move {w w' : World} {F : Nat → Prop} {p : Nat} {D : Dsk} (hd : DiskAt w F p D) (h : ∀ k, F k → w'.heap[k]? = w.heap[k]?) : DiskAt w' F p D := by
  obtain ⟨pd, pm, uv, hp, hpd, hu, hm, hF, hb, hok⟩ := hd
  refine ⟨pd, pm, uv, hp.keep (h _ hF.1), hpd.keep (h _ hF.2.1), ownsRow_keep hu (fun g hg => h _ (hF.2.2.2 g hg)), hm.keep (h _ hF.2.2.1), hF, fun k hk => ⟨(hb k hk).1, ?_⟩, hok⟩
  have h1 := h k hk
  have h2 := (hb k hk).2
  rw [Array.getElem?_eq_getElem h2] at h1
  exact (Array.getElem?_eq_some_iff.1 h1).1
/-- the disk D at block p, with all its blocks -/
def DiskP (p : Nat) (D : Dsk) : SP := ⟨10, p, fun h => ∃ w F, DiskAt w F p D ∧ ∀ k, F k → h k = w.heap[k]?⟩

section
variable {P : Program} {W : World}
theorem DiskP.at {w : World} {h : Hl} {p : Nat} {D : Dsk} (hd : (DiskP p D).ok h) (l : Lies W w h) : ∃ F, DiskAt w F p D ∧ ∀ k, F k → ∃ o, h k = some o := by
  obtain ⟨w0, F, hd, e⟩ := hd
  have hs : ∀ k, F k → ∃ o, h k = some o ∧ w0.heap[k]? = some o := fun k hk => by
    have := (hd.bound k hk).2
    exact ⟨_, (e k hk).trans (Array.getElem?_eq_getElem this), Array.getElem?_eq_getElem this⟩
  refine ⟨F, hd.move fun k hk => ?_, fun k hk => (hs k hk).imp fun o h => h.1⟩
  obtain ⟨o, h1, h2⟩ := hs k hk
  rw [h2]; exact (l k o h1).2
open Classical in
theorem DiskP.of {w : World} {F : Nat → Prop} {p : Nat} {D : Dsk} (hd : DiskAt w F p D) : (DiskP p D).ok (fun k => if F k then w.heap[k]? else none) := ⟨w, F, hd, fun k hk => by simp [hk]⟩

/-- a method's contract, out of one that is said of a world -/
theorem Ct_disk {X : Type} {r : X → Value} {f : FuncId} {args : List Value} {p : Nat} {D : Dsk} {D' : X → Dsk} (Hk : List SP)
    (h : ∀ w F hk, Below W.heap.size W w → DiskAt w F p D → starL Hk hk → Lies W w hk → (∀ k o, hk k = some o → ¬ F k) → (∀ k, F k → W.heap.size ≤ k) → Calls P f args.toArray w fun e w' => ∃ x F', e = .returned (r x) ∧ DiskAt w' F' p (D' x) ∧ Fr F w w' ∧ ∀ k, F' k → F k ∨ w.heap.size ≤ k) :
    Ct P W f args (DiskP p D :: Hk) r (fun x => DiskP p (D' x) :: Hk) := by
  refine ⟨fun R w s => ?_⟩
  obtain ⟨h1, h2, dj, hA, hH, l1, l2⟩ := (show St W ([DiskP p D] ++ (Hk ++ R)) w from s).split
  obtain ⟨ha, _, _, lea, _, hd, _⟩ := hA
  obtain ⟨F, hd, hF⟩ := DiskP.at hd (l1.mono lea)
  have hF1 : ∀ k, F k → ∃ o, h1 k = some o := fun k hk => (hF k hk).imp fun o h => lea k o h
  obtain ⟨hk, hr, djk, le3, le4, hHk, hHr⟩ := (starL_append h2).1 hH
  refine (h w F hk s.below hd hHk (l2.mono le3) (fun k o q hk' => ?_) (fun k hk' => ?_)).mono ?_
  · obtain ⟨o', h'⟩ := hF1 k hk'
    have := dj k o' h'
    rw [le3 k o q] at this; cases this
  · obtain ⟨o', h'⟩ := hF1 k hk'
    exact (l1 k o' h').1
  rintro e w' ⟨x, F', rfl, hd', hf, hF'⟩
  refine ⟨x, rfl, ?_⟩
  show St W ([DiskP p (D' x)] ++ (Hk ++ R)) w'
  refine St.join s.below dj hH l1 l2 (starL_one (DiskP.of hd')) hf.os hf.tape hf.output hf.size ?_ ?_ ?_
  · intro k o q
    by_cases hk : F' k
    · simpa [hk] using q
    · simp [hk] at q
  · intro k o q
    by_cases hk : F' k
    · rcases hF' k hk with h | h
      · exact .inl (hF1 k h)
      · exact .inr h
    · simp [hk] at q
  · intro k hk hn
    refine hf.block k hk (fun h => ?_)
    obtain ⟨o, h'⟩ := hF1 k h
    rw [hn] at h'; cases h'
/-- a contract that only makes memory, out of one that is said of a world -/
theorem Ct_pure {X : Type} {r : X → Value} {f : FuncId} {args : List Value} (Hk : List SP)
    (h : ∀ w hk, Below W.heap.size W w → starL Hk hk → Lies W w hk → Calls P f args.toArray w fun e w' => ∃ x, e = .returned (r x) ∧ Fr noB w w') :
    Ct P W f args Hk r (fun _ => Hk) := by
  refine ⟨fun R w s => ?_⟩
  obtain ⟨h1, h2, dj, hA, hH, l1, l2⟩ := s.split
  refine (h w h1 s.below hA l1).mono ?_
  rintro e w' ⟨x, rfl, hf⟩
  refine ⟨x, rfl, ?_⟩
  have keep : ∀ k, k < w.heap.size → w'.heap[k]? = w.heap[k]? := fun k hk => hf.block k hk (by simp [noB])
  exact St.join (g := h1) s.below dj hH l1 l2 hA hf.os hf.tape hf.output hf.size (fun k o q => (keep k (l1.lt q)).trans (l1 k o q).2) (fun k o q => .inl ⟨o, q⟩) (fun k hk _ => keep k hk)
/-- a contract that makes a part of its own -/
theorem Ct_made {X : Type} {r : X → Value} {f : FuncId} {args : List Value} {A : X → SP}
    (h : ∀ w, Below W.heap.size W w → Calls P f args.toArray w fun e w' => ∃ x, e = .returned (r x) ∧ Fr noB w w' ∧ ∃ g : Hl, (A x).ok g ∧ ∀ k o, g k = some o → w.heap.size ≤ k ∧ w'.heap[k]? = some o) :
    Ct P W f args [] r (fun x => [A x]) := by
  refine ⟨fun R w s => ?_⟩
  obtain ⟨h1, h2, dj, hA, hH, l1, l2⟩ := s.split
  refine (h w s.below).mono ?_
  rintro e w' ⟨x, rfl, hf, g, hg, hl⟩
  refine ⟨x, rfl, ?_⟩
  have keep : ∀ k, k < w.heap.size → w'.heap[k]? = w.heap[k]? := fun k hk => hf.block k hk (by simp [noB])
  exact St.join (g := g) s.below dj hH l1 l2 (starL_one hg) hf.os hf.tape hf.output hf.size (fun k o q => (hl k o q).2) (fun k o q => .inr (hl k o q).1) (fun k hk _ => keep k hk)

/-- some of the errors lie in their variables, each its own -/
structure ErrsOn (S : List Nat) (w : World) (E : Nat → Addr) : Prop where
  at_ : ∀ k, k ∈ S → ErrAt w E k
  obj : ∀ k, k ∈ S → ∃ ca ta, w.heap[(E k).block]? = some (.cells ca ta (0, 0))
  inj : ∀ j k, j ∈ S → k ∈ S → E j = E k → j = k
  pos : ∀ k, k ∈ S → 1 ≤ k
abbrev L8 : List Nat := [3, 6, 7, 12, 14]
theorem ErrsAt.on {w : World} {E : Nat → Addr} (h : ErrsAt w E) : ErrsOn L8 w E := by
  have hS : ∀ k ∈ L8, 1 ≤ k ∧ k ≤ 37 := by decide
  exact ⟨fun k hk => h.at_ k (hS k hk).1 (hS k hk).2, fun k hk => h.obj k (hS k hk).1 (hS k hk).2, fun j k hj hk => h.inj j k (hS j hj).1 (hS j hj).2 (hS k hk).1 (hS k hk).2, fun k hk => (hS k hk).1⟩
theorem ErrsAt.all {w : World} {E : Nat → Addr} (h : ErrsAt w E) : ErrsOn (List.range' 1 37) w E := by
  have hS : ∀ k ∈ List.range' 1 37, 1 ≤ k ∧ k ≤ 37 := by decide
  exact ⟨fun k hk => h.at_ k (hS k hk).1 (hS k hk).2, fun k hk => h.obj k (hS k hk).1 (hS k hk).2, fun j k hj hk => h.inj j k (hS j hj).1 (hS j hj).2 (hS k hk).1 (hS k hk).2, fun k hk => (hS k hk).1⟩
theorem ErrAt.keepB {w w' : World} {E : Nat → Addr} {k : Nat} (h : ErrAt w E k) (hk : ∀ g, g < w.heap.size → w'.heap[g]? = w.heap[g]?) : ErrAt w' E k := by
  unfold ErrAt at h ⊢
  have hb := World.block_lt_of_cell? w _ h
  rw [World.cell?_of_block (w := w) (hk _ hb)]
  exact h
theorem ErrsOn.later {S : List Nat} {W w : World} {E : Nat → Addr} (h : ErrsOn S W E) (b : Below W.heap.size W w) : ErrsOn S w E :=
  ⟨fun k hk => (h.at_ k hk).keepB b.block, fun k hk => by
    obtain ⟨ca, ta, q⟩ := h.obj k hk
    exact ⟨ca, ta, (b.block _ (Array.getElem?_eq_some_iff.1 q).1).trans q⟩, h.inj, h.pos⟩
theorem ErrsAt.later {w : World} {E : Nat → Addr} (h : ErrsAt W E) (b : Below W.heap.size W w) : ErrsAt w E := h.keepB b.size b.block
end
section
variable {W : World} {E : Nat → Addr} {p : Nat} {D : Dsk}
theorem fr_below {F : Nat → Prop} {w w' : World} (h : w = w') : Fr F w w' := by subst h; exact Fr.refl _ _
theorem size_ct : Ct Tryd.prog W 40 [.pointer (some ⟨p, 0, none⟩)] [DiskP p D] (fun _ : Unit => .int .i64 D.n) (fun _ => [DiskP p D]) :=
  Ct_disk (D' := fun _ => D) [] fun w F _ _ hd _ _ _ _ => (size_any w F p D hd).mono fun _ _ ⟨he, hw⟩ => ⟨(), F, he, hw ▸ hd, fr_below hw, fun _ h => .inl h⟩
theorem off_ct : Ct Tryd.prog W 30 [.pointer (some ⟨p, 0, none⟩)] [DiskP p D] (fun _ : Unit => .bool D.off) (fun _ => [DiskP p D]) :=
  Ct_disk (D' := fun _ => D) [] fun w F _ _ hd _ _ _ _ => (off_any w F p D hd).mono fun _ _ ⟨he, hw⟩ => ⟨(), F, he, hw ▸ hd, fr_below hw, fun _ h => .inl h⟩
theorem life_ct : Ct Tryd.prog W 41 [.pointer (some ⟨p, 0, none⟩)] [DiskP p D] (fun _ : Unit => .int .i64 D.life) (fun _ => [DiskP p D]) :=
  Ct_disk (D' := fun _ => D) [] fun w F _ _ hd _ _ _ _ => (life_any w F p D hd).mono fun _ _ ⟨he, hw⟩ => ⟨(), F, he, hw ▸ hd, fr_below hw, fun _ h => .inl h⟩
theorem arm_ct (k : Int) (hk : k ≤ 9223372036854775807) : Ct Tryd.prog W 37 [.pointer (some ⟨p, 0, none⟩), .int .i64 k] [DiskP p D] (fun _ : Unit => .tuple #[]) (fun _ => [DiskP p (D.arm k)]) :=
  Ct_disk (D' := fun _ => D.arm k) [] fun w F _ _ hd _ _ _ _ => (arm_any w F p D hd k hk).mono fun _ _ ⟨he, hd', hf⟩ => ⟨(), F, he, hd', hf, fun _ h => .inl h⟩
theorem read_ct (hE : ErrsOn L8 W E) (i : Int) : Ct Tryd.prog W 26 [.pointer (some ⟨p, 0, none⟩), .int .i64 i] [DiskP p D] (fun _ : Unit => .tuple #[strV (D.readS i), errV E (D.readE i)]) (fun _ => [DiskP p D]) :=
  Ct_disk (D' := fun _ => D) [] fun w F _ b hd _ _ _ _ => (read_any w F p D E hd i ((hE.later b).at_ 12 (by decide)) ((hE.later b).at_ 6 (by decide))).mono fun e w' ⟨he, hf⟩ => ⟨(), F, he, hd.fr hf (fun _ _ q => q), hf.mono (fun _ q => q.elim), fun _ h => .inl h⟩
theorem write_ct (hE : ErrsOn L8 W E) (i : Int) (s : List UInt8) (hul : D.und.length < 1073741824) : Ct Tryd.prog W 32 [.pointer (some ⟨p, 0, none⟩), .int .i64 i, strV s] [DiskP p D] (fun _ : Unit => errV E (D.writeE i s)) (fun _ => [DiskP p (D.writeD i s)]) :=
  Ct_disk (D' := fun _ => D.writeD i s) [] fun w F _ b hd _ _ _ _ => (write_any w F p D E hd i s ((hE.later b).at_ 12 (by decide)) ((hE.later b).at_ 6 (by decide)) ((hE.later b).at_ 7 (by decide)) hul).mono fun e w' ⟨he, F', hd', hf, hF⟩ => ⟨(), F', he, hd', hf, hF⟩
theorem flush_ct (hE : ErrsOn L8 W E) (hul : D.und.length < 1073741824) : Ct Tryd.prog W 24 [.pointer (some ⟨p, 0, none⟩)] [DiskP p D] (fun _ : Unit => errV E D.flushE) (fun _ => [DiskP p D.flushD]) :=
  Ct_disk (D' := fun _ => D.flushD) [] fun w F _ b hd _ _ _ _ => (flush_any w F p D E hd ((hE.later b).at_ 12 (by decide)) hul).mono fun e w' ⟨he, hd', hf⟩ => ⟨(), F, he, hd', hf, fun _ h => .inl h⟩
theorem image_ct : Ct Tryd.prog W 27 [.pointer (some ⟨p, 0, none⟩)] [DiskP p D] (fun _ : Unit => strV D.img) (fun _ => [DiskP p D]) :=
  Ct_disk (D' := fun _ => D) [] fun w F _ _ hd _ _ _ _ => (image_any w F p D hd).mono fun _ _ ⟨he, hf⟩ => ⟨(), F, he, hd.fr hf (fun _ _ q => q), hf.mono (fun _ q => q.elim), fun _ h => .inl h⟩
theorem num_ct (hE : ErrsAt W E) (hg : gB ≤ W.heap.size) (k : Nat) (hk : k ≤ 37) : Ct Tryd.prog W 35 [errV E k] [] (fun _ : Unit => .int .i64 k) (fun _ => []) :=
  Ct_pure [] fun w _ b _ _ => (num_any w E (hE.later b) (Nat.le_trans hg b.size) k hk).mono fun _ _ ⟨he, hf⟩ => ⟨(), he, hf⟩
theorem new_ct (n : Nat) (h1 : 1 ≤ n) (h2 : n ≤ 65536) (hg : gB ≤ W.heap.size) : Ct Tryd.prog W 33 [.int .i64 n] [] (fun p : Nat => .tuple #[.pointer (some ⟨p, 0, none⟩), .nilIface]) (fun p => [DiskP p (Dsk.blank n)]) :=
  Ct_made fun w b => (new_ok w n h1 h2 (Nat.le_trans hg b.size)).mono fun e w' ⟨p, F, he, hd, hf, hF⟩ => ⟨p, he, hf, _, DiskP.of hd, fun k o q => by
    by_cases hk : F k
    · exact ⟨hF k hk, by simpa [hk] using q⟩
    · simp [hk] at q⟩
theorem new_bad_ct (hE : ErrsOn L8 W E) (n : Int) (h : n < 1 ∨ 65536 < n) : Ct Tryd.prog W 33 [.int .i64 n] [] (fun _ : Unit => .tuple #[.pointer none, errV E 6]) (fun _ => []) :=
  Ct_pure [] fun w _ b _ _ => (new_bad w n E ((hE.later b).at_ 6 (by decide)) h).mono fun e w' ⟨he, hf⟩ => ⟨(), he, hf⟩
/-- Crash: what is kept lies among Hk, or where it lay when all began -/
theorem crash_gen (Hk : List SP) (kv : Value) (kept : List Bool) (torn bytes : Int) (hk : ∀ w h, Below W.heap.size W w → starL Hk h → Lies W w h → BoolsAt w kv kept ∧ (kept ≠ [] → ∀ g, kv.ownBlock = some g → (∃ o, h g = some o) ∨ g < W.heap.size)) (hul : D.und.length < 1073741824) :
    Ct Tryd.prog W 29 [.pointer (some ⟨p, 0, none⟩), .agg #[kv, .int .i64 torn, .int .i64 bytes]] (DiskP p D :: Hk) (fun _ : Unit => .tuple #[]) (fun _ => DiskP p (D.crash kept torn bytes) :: Hk) :=
  Ct_disk (D' := fun _ => D.crash kept torn bytes) Hk fun w F h b hd hh hl hF hW => by
    obtain ⟨h1, h2⟩ := hk w h b hh hl
    refine (crash_any w F p D hd kv kept torn bytes h1 (fun hne g hg hFg => ?_) hul).mono fun e w' ⟨he, hd', hf⟩ => ⟨(), F, he, hd', hf, fun _ h => .inl h⟩
    rcases h2 hne g hg with ⟨o, ho⟩ | hlt
    · exact hF g o ho hFg
    · have := hW g hFg; omega
/-- Crash: what is kept lay there when all began -/
theorem crash_old {kv : Value} {kept : List Bool} (torn bytes : Int) (hk : BoolsAt W kv kept) (hul : D.und.length < 1073741824) :
    Ct Tryd.prog W 29 [.pointer (some ⟨p, 0, none⟩), .agg #[kv, .int .i64 torn, .int .i64 bytes]] [DiskP p D] (fun _ : Unit => .tuple #[]) (fun _ => [DiskP p (D.crash kept torn bytes)]) :=
  crash_gen [] kv kept torn bytes (fun w h b _ _ => ⟨hk.keepB b.size b.block, fun hne g hg => by
    obtain ⟨a, c, rfl, h1, _⟩ := hk
    obtain ⟨b', o, rfl, hb, _⟩ := h1 hne
    have : b' = g := by simpa [Value.ownBlock] using hg
    exact .inr (by omega)⟩) hul
end
end Go.Proofs.YteklldbfdmaafaaDoor
/-
  More rules of the walk: bits, complements, parts of a slice to one end, copies of a string, known answers.
-/
namespace Go.Proofs.YteklldbfdmaafaaDoor
open Go Go.RowKit
section
variable {P : Program} {W : World} {n d : Nat} {E : Env} {H H' R : List SP} {t u e : TypeId} {x y z : Operand} {T : TypeId} {b off : Nat} {k : KK}
theorem Ev_xor {kd : IntKind} {i j : Int} (hx : Env.ev E x = some (.int kd i)) (hy : Env.ev E y = some (.int kd j)) : Ev P W n E H (.binOp .xor t x y u) (.int kd (bits .xor kd i j)) := Ev_bits (.inr (.inr (.inl rfl))) hx hy fun _ => rfl
theorem Ev_and {kd : IntKind} {i j : Int} (hx : Env.ev E x = some (.int kd i)) (hy : Env.ev E y = some (.int kd j)) : Ev P W n E H (.binOp .and t x y u) (.int kd (bits .and kd i j)) := Ev_bits (.inl rfl) hx hy fun _ => rfl
theorem Ev_or {kd : IntKind} {i j : Int} (hx : Env.ev E x = some (.int kd i)) (hy : Env.ev E y = some (.int kd j)) : Ev P W n E H (.binOp .or t x y u) (.int kd (bits .or kd i j)) := Ev_bits (.inr (.inl rfl)) hx hy fun _ => rfl
theorem Ev_compl {kd : IntKind} {i : Int} (hx : Env.ev E x = some (.int kd i)) : Ev P W n E H (.unOp .xor t x) (.int kd (bits .xor kd (if kd.signed then -1 else kd.max) i)) := Ev.mk fun o ho a w p _ => by
  simp [execOp, ho, p.ev hx, Op.unary, intBits_xor]
theorem Ev_geqI_q {kd : IntKind} {i j : Int} {q : Bool} (hx : Env.ev E x = some (.int kd i)) (hy : Env.ev E y = some (.int kd j)) (h : decide (j ≤ i) = q) : Ev P W n E H (.binOp .geq t x y u) (.bool q) := by
  subst h; exact Ev_geqI hx hy
theorem Ev_gtrI_q {kd : IntKind} {i j : Int} {q : Bool} (hx : Env.ev E x = some (.int kd i)) (hy : Env.ev E y = some (.int kd j)) (h : decide (j < i) = q) : Ev P W n E H (.binOp .gtr t x y u) (.bool q) := by
  subst h; exact Ev_gtrI hx hy
theorem Ev_leqI_q {kd : IntKind} {i j : Int} {q : Bool} (hx : Env.ev E x = some (.int kd i)) (hy : Env.ev E y = some (.int kd j)) (h : decide (i ≤ j) = q) : Ev P W n E H (.binOp .leq t x y u) (.bool q) := by
  subst h; exact Ev_leqI hx hy
theorem Ev_lssI_q {kd : IntKind} {i j : Int} {q : Bool} (hx : Env.ev E x = some (.int kd i)) (hy : Env.ev E y = some (.int kd j)) (h : decide (i < j) = q) : Ev P W n E H (.binOp .lss t x y u) (.bool q) := by
  subst h; exact Ev_lssI hx hy
theorem Ev_eqlI_f {kd : IntKind} {i j : Int} (hx : Env.ev E x = some (.int kd i)) (hy : Env.ev E y = some (.int kd j)) (h : i ≠ j) : Ev P W n E H (.binOp .eql t x y u) (.bool false) := by
  have := Ev_eqlI (P := P) (W := W) (n := n) (E := E) (H := H) (t := t) (u := u) hx hy
  rw [decide_eq_false h] at this; exact this
theorem Ev_neqI_t {kd : IntKind} {i j : Int} (hx : Env.ev E x = some (.int kd i)) (hy : Env.ev E y = some (.int kd j)) (h : i ≠ j) : Ev P W n E H (.binOp .neq t x y u) (.bool true) := by
  have := Ev_neqI (P := P) (W := W) (n := n) (E := E) (H := H) (t := t) (u := u) hx hy
  rw [decide_eq_true (by exact h)] at this; exact this
theorem Ev_sliceTo {j : Int} {kj : IntKind} {m c s : Nat} (hx : Env.ev E x = some (.slice (some ⟨b, off, none⟩) m c)) (hz : Env.ev E z = some (.int kj j)) [hu : UIs P t (.slice e)] (hb : 0 ≤ j ∧ j ≤ c ∧ 0 < c) [hi : SzIs P e s] : Ev P W n E H (.slice t x none (some z) none) (.slice (some ⟨b, off, none⟩) j.toNat c) :=
  Ev.mk fun o ho a w p _ => by
    have h1 : 0 ≤ j := by omega
    have h3 : ¬ c = 0 := by omega
    have hi := hi.h
    cases hq : P.info? e with
    | none => simp [hq] at hi
    | some q =>
      simp [execOp, ho, p.ev hx, p.ev hz, Instr.sliceAt, Instr.slice, run_underlying hu.h, Instr.sliceBounds, Instr.sliceBound, asIntOf, h1, hb, sizeOf, typeInfo, hq, Addr.add]
theorem Ev_sliceFrom {i : Int} {ki : IntKind} {m c s : Nat} (hx : Env.ev E x = some (.slice (some ⟨b, off, none⟩) m c)) (hy : Env.ev E y = some (.int ki i)) [hu : UIs P t (.slice e)] [hi : SzIs P e s] (hb : 0 ≤ i ∧ i ≤ m ∧ m ≤ c ∧ i < c) : Ev P W n E H (.slice t x (some y) none none) (.slice (some ⟨b, off + i.toNat * s, none⟩) (m - i.toNat) (c - i.toNat)) :=
  Ev.mk fun o ho a w p _ => by
    have h3 : ¬ c = i.toNat := by omega
    have h4 : ¬ c ≤ i.toNat := by omega
    have hi := hi.h
    cases hq : P.info? e with
    | none => simp [hq] at hi
    | some q =>
      have hi : q.size = s := by simpa [hq] using hi
      have h5 : ¬ (c - i.toNat = 0) := by omega
      have h6 : (m : Int) ≤ c := by omega
      simp [execOp, ho, p.ev hx, p.ev hy, Instr.sliceAt, Instr.slice, run_underlying hu.h, Instr.sliceBounds, Instr.sliceBound, asIntOf, hb, h3, sizeOf, typeInfo, hq, hi, Addr.add_mid]
/-- copy(dst, s), s a text that fits -/
theorem KJ_copyStr {dT sT : TypeId} {m c : Nat} {l : List UInt8} {cs : List Value} (hx : Env.ev E x = some (.slice (some ⟨b, off, none⟩) m c)) (hy : Env.ev E y = some (strV l)) [hu : UIs P dT (.slice e)] [hi : SzIs P e 1] (hs : Sel (cellsP b cs T) H R)
    (hl : l.length ≤ m) (hfit : off + l.length ≤ cs.length) (hr : Rep (cellsP b cs T) (cellsP b (lay cs off (bvs l)) T) H H') (hn : Nat.blt d n = true) (h : KJ W n k ((d, .int .i64 l.length) :: E) H') :
    KJ W n (.oper P (.call { callee := .builtin .copy, args := #[x, y], argTypes := #[dT, sT] }) (some d) k) E H := by
  have htk : l.take m = l := List.take_of_length_le hl
  refine ⟨fun a w p s o ho hd => ?_⟩
  have hrun := run_copy_str (P := P) w dT sT o.type e b off m c l cs T hu.h hi.h (s.left.blk hs).2 (by rw [htk]; exact hfit)
  rw [htk] at hrun
  show uponP P o a _ ((execOp a.eval o).run P w)
  have e2 : (execOp a.eval o).run P w = .ok (.value (goInt l.length)) (w.setRow b (lay cs off (bvs l)).toArray) := by
    have hrun' : (Builtin.copy_ #[dT, sT] o.type #[.slice (some ⟨b, off, none⟩) m c, strV l]).run P w = .ok (goInt l.length) (w.setRow b (lay cs off (bvs l)).toArray) := hrun
    simp [execOp, ho, resolve, invoke, builtin, p.ev hx, p.ev hy, hrun', Result.andThen]
  rw [e2]
  have := h.go _ _ (p.put (d := some d) hn (goInt l.length)) (s.setRow (hr.app _))
  rw [← hd] at this
  exact this
end
end Go.Proofs.YteklldbfdmaafaaDoor
/-
  Laid bytes, and more rules of the walk on bytes.
-/
namespace Go.Proofs.YteklldbfdmaafaaDoor
open Go Go.RowKit
theorem bvs_length' (l : List UInt8) : (bvs l).length = l.length := by simp [bvs]
theorem cut_lay_same (l b : List UInt8) (o : Nat) (h : o + b.length ≤ l.length) : cut (lay l o b) o b.length = b := by
  unfold cut lay
  rw [List.drop_left' (by simp; omega), List.take_left' rfl]
theorem cut_lay_before (l b : List UInt8) (o p m : Nat) (h : o + b.length ≤ l.length) (hp : p + m ≤ o) : cut (lay l o b) p m = cut l p m := by
  unfold cut lay
  rw [List.drop_append_of_le_length (by simp; omega), List.take_append_of_le_length (by simp; omega), List.drop_take, List.take_take, Nat.min_eq_left (by omega)]
theorem cut_lay_behind (l b : List UInt8) (o p m : Nat) (h : o + b.length ≤ l.length) (hp : o + b.length ≤ p) : cut (lay l o b) p m = cut l p m := by
  unfold cut lay
  rw [← List.append_assoc, List.drop_append, List.drop_of_length_le (by simp; omega)]
  simp only [List.nil_append, List.drop_drop]
  congr 2
  simp
  omega
theorem zs_cut (m o n : Nat) (h : o + n ≤ m) : cut (zs m) o n = zs n := by
  unfold cut zs
  rw [List.drop_replicate, List.take_replicate]
  congr 1
  omega
section
variable {P : Program} {W : World} {n d : Nat} {E : Env} {H H' R : List SP} {t u e : TypeId} {x y z : Operand} {T : TypeId} {b off : Nat} {k : KK}
theorem KJ_copyStrB {dT sT : TypeId} {m c : Nat} {l l0 l' : List UInt8} (hx : Env.ev E x = some (.slice (some ⟨b, off, none⟩) m c)) (hy : Env.ev E y = some (strV l)) [hu : UIs P dT (.slice e)] [hi : SzIs P e 1] (hs : Sel (cellsP b (bvs l0) T) H R)
    (hl : l.length ≤ m) (hfit : off + l.length ≤ l0.length) (he : lay l0 off l = l') (hr : Rep (cellsP b (bvs l0) T) (cellsP b (bvs l') T) H H') (hn : Nat.blt d n = true) (h : KJ W n k ((d, .int .i64 l.length) :: E) H') :
    KJ W n (.oper P (.call { callee := .builtin .copy, args := #[x, y], argTypes := #[dT, sT] }) (some d) k) E H := by
  have e1 : bvs l' = lay (bvs l0) off (bvs l) := by rw [← he, bvs_lay]
  rw [e1] at hr
  exact KJ_copyStr hx hy hs hl (by rw [bvs_length']; exact hfit) hr hn h
/-- string(b), its beginning -/
theorem Ev_bytesTake {s : TypeId} {l : List UInt8} {m c : Nat} (hx : Env.ev E x = some (.slice (some ⟨b, 0, none⟩) m c)) [hs : UIs P s (.slice e)] [he : UIs P e (.int .u8)] [hd : UIs P u .string] (hs' : Sel (cellsP b (bvs l) T) H R) (hm : m ≤ l.length) : Ev P W n E H (.convert s u x) (strV (l.take m)) := by
  have h := Ev_bytesStr (P := P) (W := W) (n := n) (E := E) (u := u) hx (hs := hs) (he := he) (hd := hd) hs' (by omega)
  rw [List.drop_zero] at h
  exact h
/-- string(b), the whole -/
theorem Ev_bytesAll {s : TypeId} {l : List UInt8} {m c : Nat} (hx : Env.ev E x = some (.slice (some ⟨b, 0, none⟩) m c)) [hs : UIs P s (.slice e)] [he : UIs P e (.int .u8)] [hd : UIs P u .string] (hs' : Sel (cellsP b (bvs l) T) H R) (hm : l.length = m) : Ev P W n E H (.convert s u x) (strV l) := by
  have h := Ev_bytesStr (P := P) (W := W) (n := n) (E := E) (u := u) hx (hs := hs) (he := he) (hd := hd) hs' (by omega)
  rw [List.drop_zero, List.take_of_length_le (by omega)] at h
  exact h
end
section
variable {P : Program} {W : World} {n : Nat} {E : Env} {H : List SP} {x : Operand}
theorem Ev_convI_v {s d : TypeId} {ks kd : IntKind} {k : IntKind} {i j : Int} (hx : Env.ev E x = some (.int k i)) [hs : UIs P s (.int ks)] [hd : UIs P d (.int kd)] (h : kd.wrap i = j) : Ev P W n E H (.convert s d x) (.int kd j) := by
  subst h; exact Ev_convI hx
end
end Go.Proofs.YteklldbfdmaafaaDoor
/-
  More rules of the walk: texts appended to rows of bytes, stores into rows, claims packed behind a hidden value.
-/
namespace Go.Proofs.YteklldbfdmaafaaDoor
open Go Go.RowKit
def packP {α : Type} (tag key : Nat) (F : α → List SP) : SP := ⟨tag, key, fun h => ∃ a, starL (F a) h⟩
theorem pack_star {α : Type} {tag key : Nat} {F : α → List SP} {H : List SP} (a : α) : ∀ g, starL (F a ++ H) g → starL (packP tag key F :: H) g := by
  intro g q
  obtain ⟨h1, h2, d, l1, l2, s1, s2⟩ := (starL_append g).1 q
  exact ⟨h1, h2, d, l1, l2, ⟨a, s1⟩, s2⟩
theorem unpack_star {α : Type} {tag key : Nat} {F : α → List SP} {H : List SP} {g : Hl} (q : starL (packP tag key F :: H) g) : ∃ a, starL (F a ++ H) g := by
  obtain ⟨h1, h2, d, l1, l2, ⟨a, s1⟩, s2⟩ := q
  exact ⟨a, (starL_append g).2 ⟨h1, h2, d, l1, l2, s1, s2⟩⟩
theorem St.unpack {W w : World} {α : Type} {tag key : Nat} {F : α → List SP} {H : List SP} (s : St W (packP tag key F :: H) w) : ∃ a, St W (F a ++ H) w := by
  obtain ⟨h, q, l⟩ := s.own
  obtain ⟨a, q⟩ := unpack_star q
  exact ⟨a, s.below, h, q, l⟩
theorem KJ.unpack {W : World} {n : Nat} {k : KK} {E : Env} {α : Type} {tag key : Nat} {F : α → List SP} {H : List SP} (h : ∀ a, KJ W n k E (F a ++ H)) : KJ W n k E (packP tag key F :: H) :=
  ⟨fun a w p s => by
    obtain ⟨x, s⟩ := (show St W (packP tag key F :: (H ++ dm a.defers)) w from s).unpack
    exact (h x).go a w p (by rw [Sta, List.append_assoc]; exact s)⟩
theorem KJ.unpack_at {W : World} {n : Nat} {k : KK} {E : Env} {α : Type} {tag key : Nat} {F : α → List SP} {H R : List SP} (q : Sel (packP tag key F) H R) (h : ∀ a, KJ W n k E (F a ++ R)) : KJ W n k E H := KJ.perm (KJ.unpack h) q.perm
theorem Ct_unpack {P : Program} {W : World} {f : FuncId} {args : List Value} {Hs : List SP} {X : Type} {r : X → Value} {H' : X → List SP} {α : Type} {tag key : Nat} {F : α → List SP}
    (h : ∀ a, Ct P W f args (F a ++ Hs) r H') : Ct P W f args (packP tag key F :: Hs) r H' :=
  ⟨fun R w s => by obtain ⟨x, s⟩ := (show St W (packP tag key F :: (Hs ++ R)) w from s).unpack; exact (h x).go R w (by simpa using s)⟩
theorem strCells_bvs (l : List UInt8) : Lib.strCells ⟨l.toArray⟩ = bvs l := by simp [Lib.strCells, bvs, bv]
theorem append_str_at {P : Program} (w : World) (base : Nat) (t u ty e : TypeId) (i : TypeInfo) (ht : P.underlying t = some (.slice e)) (hu : P.underlying u = some .string) (hi : P.info? e = some i) (z : Value) (hz : i.zero = some z) (hzc : z.cells = #[.int .u8 0])
    (hsize : i.size = 1) (hby : i.bytes = 1) (v : Value) (n : Nat) (xs : List Value) (hown : w.ownsRow base e 1 v n xs) (l : List UInt8) (hne : l ≠ [] ∨ v.ownBlock.isSome = true)
    (hbytes : n + l.length ≤ 140737488355328) (hbase : base ≤ w.heap.size) :
    ∃ g c w', (Builtin.append_ #[t, u] ty #[v, strV l]).run P w = .ok (.slice (some ⟨g, 0, none⟩) (n + l.length) c) w' ∧ w'.ownsRow base e 1 (.slice (some ⟨g, 0, none⟩) (n + l.length) c) (n + l.length) (xs ++ bvs l) ∧ w.grownBy w' v.ownBlock ∧ (v.ownBlock = some g ∨ g = w.heap.size) := by
  have hb' : n + (⟨l.toArray⟩ : ByteArray).size ≤ 140737488355328 := hbytes
  have hss : (⟨l.toArray⟩ : ByteArray).size = l.length := rfl
  have hxl : xs.length = n := by simpa using hown.1
  have h63 : n + l.length ≤ maxLen := by unfold maxLen; omega
  have hlen : (xs ++ bvs l).length = (n + l.length) * 1 := by rw [List.length_append, hxl, bvs_length', Nat.mul_one]
  have grown : ∀ (old : Nat), old < n + l.length → ∀ (row : Option Nat),
      (w.drew.alloc (.cells (xs.toArray ++ (bvs l).toArray ++ Builtin.zeroCells z.cells (grownCap w (n + l.length) old e - (n + l.length))) e)).ownsRow base e 1
        (.slice (some ⟨w.heap.size, 0, none⟩) (n + l.length) (grownCap w (n + l.length) old e)) (n + l.length) (xs ++ bvs l) ∧
      w.grownBy (w.drew.alloc (.cells (xs.toArray ++ (bvs l).toArray ++ Builtin.zeroCells z.cells (grownCap w (n + l.length) old e - (n + l.length))) e)) row := by
    intro old ho row
    have hge := grownCap_ge w (n + l.length) old e
    have hcm : grownCap w (n + l.length) old e ≤ maxLen := grownCap_le_maxLen w (n + l.length) old e h63
    refine ⟨⟨hlen, .inr ⟨w.heap.size, _, _, rfl, hbase, heap_alloc_new w.drew _, hge, hcm, ?_, ?_⟩⟩, ⟨rfl, rfl, rfl, by simp, fun k hk _ => heap_alloc_old w.drew _ hk⟩⟩
    · have hz1 : z.cells.size = 1 := by rw [hzc]; rfl
      simp only [Array.size_append, List.size_toArray, size_zeroCells, hz1, hxl, bvs_length']
      omega
    · simp only [Array.toList_append, List.append_assoc]
      rw [← List.append_assoc, ← hlen]
      exact List.take_left
  rcases hown.2 with ⟨rfl, rfl⟩ | ⟨g, cap, cur, rfl, hbg, hg, hnc, hcm, hcs, htake⟩
  · have hx : xs = [] := List.eq_nil_of_length_eq_zero hxl
    subst hx
    have hl0 : 0 < l.length := by
      rcases hne with h | h
      · exact List.length_pos_iff.2 h
      · simp [Value.ownBlock] at h
    have hr := run_append_nil_string (P := P) w t u ty e i z ht hu hi hz ⟨l.toArray⟩ hl0 (by rw [hss]; omega) (by rw [hby, hss]; omega)
    have hgr := grown 0 (by omega) (Value.ownBlock (.slice none 0 0))
    have e1 : ((⟨l.toArray⟩ : ByteArray).data.map fun b => Value.int .u8 b.toNat) = (bvs l).toArray := by simp [bvs, bv]
    rw [e1, hss] at hr
    simp only [Nat.zero_add, List.nil_append, Array.empty_append] at hgr ⊢
    exact ⟨_, _, _, hr, hgr.1, hgr.2, .inr rfl⟩
  · by_cases hroom : n + l.length ≤ cap
    · have hcs' : cur.size = cap := by simpa using hcs
      have hr := Lib.run_append_room_string (P := P) w t u ty e i ht hu hi hsize g n cap cur hg ⟨l.toArray⟩ (by rw [hss]; exact hroom) (by rw [hss]; omega)
      rw [strCells_bvs, hss] at hr
      refine ⟨_, _, _, hr, ⟨hlen, .inr ⟨g, cap, _, rfl, hbg, setRow_heap w g cur _ e _ hg, hroom, hcm, ?_, ?_⟩⟩, ⟨rfl, rfl, rfl, by simp, fun k _ hk => setRow_other w g k _ (fun e => hk (by simp [Value.ownBlock, e]))⟩, .inl rfl⟩
      · simp only [List.size_toArray, List.length_append, List.length_take, List.length_drop, Array.length_toList, bvs_length']
        omega
      · have ht' : cur.toList.take n = xs := by simpa using htake
        rw [ht', ← hlen]
        exact List.take_left
    · have holds : ∀ j u, xs[j]? = some u → w.cell? ((⟨g, 0, none⟩ : Addr).add j) = some u := hown.cells (g := g) rfl
      have hr := Lib.run_append_grow_string (P := P) w t u ty e i z ht hu hi hz ⟨g, 0, none⟩ n cap xs (by rw [hsize]; simpa using hxl) holds ⟨l.toArray⟩ (by rw [hss]; omega) (by rw [hss]; omega) (by rw [hby, hss]; exact growslice_fits (by omega) (by omega))
      rw [strCells_bvs, hss] at hr
      have hgr := grown cap (by omega) (Value.ownBlock (.slice (some ⟨g, 0, none⟩) n cap))
      exact ⟨_, _, _, hr, hgr.1, hgr.2, .inr rfl⟩
section
variable {P : Program} {W : World} {n : Nat} {E : Env} {H H' R : List SP} {k : KK} {x y z : Operand} {t u e T : TypeId} {b off d m c : Nat}
/-- what a row's step leaves: the row alone has turned -/
theorem St.rowStep {w w' : World} {v v' : Value} {size i j : Nat} {xs ys : List Value} (s : St W H w) (hsel : Sel (rowP v e size i xs) H R) (hown : w'.ownsRow W.heap.size e size v' j ys) (hg : w.grownBy w' v.ownBlock) (hloc : ∀ g, v'.ownBlock = some g → v.ownBlock = some g ∨ g = w.heap.size) :
    St W (rowP v' e size j ys :: R) w' := by
  obtain ⟨g1, g2, dj, hA, hH, l1, l2⟩ := (show St W ([rowP v e size i xs] ++ R) w from s.perm hsel.perm).split
  have hold : ∀ gg, v.ownBlock = some gg → ∃ o, g1 gg = some o := by
    intro gg hgg
    obtain ⟨ha, _, _, le, _, ⟨_, hd⟩, _⟩ := hA
    rcases hd with ⟨hv0, _⟩ | ⟨g'', cap', cur', hv0, hh0, _⟩
    · rw [hv0] at hgg; simp [Value.ownBlock] at hgg
    · rw [hv0] at hgg; simp [Value.ownBlock] at hgg; subst hgg; exact ⟨_, le _ _ hh0⟩
  have hq3 : ∀ kk, kk < w.heap.size → g1 kk = none → w'.heap[kk]? = w.heap[kk]? := by
    intro kk hk hnone
    refine hg.block kk hk (fun e => ?_)
    obtain ⟨o, ho⟩ := hold kk e.symm
    rw [hnone] at ho; cases ho
  rcases hown.2 with ⟨hv, hj⟩ | ⟨g', cap, cur, hv, hbase, hh, hrest⟩
  · exact St.join (B := [rowP v' e size j ys]) (g := fun _ => none) s.below dj hH l1 l2 (starL_one ⟨hown.1, .inl ⟨hv, hj⟩⟩) hg.os hg.tape hg.output hg.size (fun _ _ q => by cases q) (fun _ _ q => by cases q) hq3
  · refine St.join (B := [rowP v' e size j ys]) (g := Hl.one g' (.cells cur e (0, 0))) s.below dj hH l1 l2 (starL_one ⟨hown.1, .inr ⟨g', cap, cur, hv, Hl.one_self _ _, hrest⟩⟩) hg.os hg.tape hg.output hg.size ?_ ?_ hq3
    · intro kk o q; obtain ⟨rfl, rfl⟩ := Hl.one_some q; exact hh
    · intro kk o q
      obtain ⟨rfl, rfl⟩ := Hl.one_some q
      rcases hloc kk (by rw [hv]; rfl) with hl | hl
      · exact .inl (hold kk hl)
      · exact .inr (by omega)
/-- append(b, s...), b a row of one's own -/
theorem KJ_appendStr {v : Value} {i : Nat} {xs : List Value} {l : List UInt8} (hx : Env.ev E x = some v) (hy : Env.ev E y = some (strV l)) [hu : UIs P t (.slice e)] [hstr : UIs P u .string] [hs : SzIs P e 1] [hb : ByIs P e 1] [hz : ZcIs P e [.int .u8 0]] (hsel : Sel (rowP v e 1 i xs) H R)
    (hne : l ≠ [] ∨ v.ownBlock.isSome = true) (hbd : i + l.length ≤ 140737488355328) (hn : Nat.blt d n = true)
    (h : ∀ g c, KJ W n k ((d, .slice (some ⟨g, 0, none⟩) (i + l.length) c) :: E) (rowP (.slice (some ⟨g, 0, none⟩) (i + l.length) c) e 1 (i + l.length) (xs ++ bvs l) :: R)) : KJ W n (.oper P (.call { callee := .builtin .append, args := #[x, y], argTypes := #[t, u] }) (some d) k) E H := by
  refine ⟨fun a w p s o ho hd => ?_⟩
  replace hsel := hsel.app (dm a.defers)
  have hz := hz.h
  have hs := hs.h
  have hb := hb.h
  cases hq : P.info? e with
  | none => simp [hq] at hz
  | some it =>
    simp [hq] at hz hs hb
    obtain ⟨zv, hz1, hz2⟩ := hz
    obtain ⟨g, cc, w', hrun, hown, hgrow, hloc⟩ := append_str_at (P := P) w W.heap.size t u o.type e it hu.h hstr.h hq zv hz1 (by simpa using hz2) hs hb v i xs (s.row hsel) l hne hbd s.size
    show uponP P o a _ ((execOp a.eval o).run P w)
    have hr2 : (execOp a.eval o).run P w = .ok (.value (.slice (some ⟨g, 0, none⟩) (i + l.length) cc)) w' := by
      simp only [execOp, ho, resolve, invoke, builtin, Sem.run_bind, Sem.run_pure, Result.andThen_ok, List.map_toArray, List.map_cons, List.map_nil, p.ev hx, p.ev hy, hrun]
    rw [hr2]
    have st := s.rowStep hsel hown hgrow (fun g' hg' => by have : g = g' := by simpa [Value.ownBlock] using hg'
                                                           subst this; exact hloc)
    have := (h g cc).go _ w' (p.put (d := some d) hn _) st
    rw [← hd] at this
    exact this
/-- string(b), b a row of bytes of one's own -/
theorem Ev_bytesRow {s u : TypeId} {g i : Nat} {l : List UInt8} (hx : Env.ev E x = some (.slice (some ⟨g, 0, none⟩) i c)) [hs : UIs P s (.slice e)] [he : UIs P e (.int .u8)] [hd : UIs P u .string] (hsel : Sel (rowP (.slice (some ⟨g, 0, none⟩) i c) e 1 i (bvs l)) H R) : Ev P W n E H (.convert s u x) (strV l) :=
  Ev.mk fun o ho a w p q => by
    have hrow := q.row hsel
    have hl : l.length = i := by have := hrow.1; rw [bvs_length'] at this; omega
    have hr := run_convert_bytes_back (P := P) w s u e ⟨g, 0, none⟩ c l hs.h he.h hd.h (fun j hj => hrow.cells (g := g) rfl j _ (by simp [bvs, bv, hj]))
    rw [hl] at hr
    simp only [execOp, ho, p.ev hx, Sem.run_bind, hr, Result.andThen_ok, Sem.run_pure]
/-- []T{} -/
theorem KJ_bslice0 {m : Nat} [hu : UIs P t (.slice e)] [hs : SzIs P e m] (hn : Nat.blt d n = true)
    (h : ∀ g, KJ W n k ((d, .slice (some ⟨g, 0, none⟩) 0 0) :: E) (rowP (.slice (some ⟨g, 0, none⟩) 0 0) e m 0 [] :: H)) : KJ W n (.oper P (.buildSlice t 0 #[]) (some d) k) E H := by
  refine ⟨fun a w p s o ho hd => ?_⟩
  have hs := hs.h
  cases hq : P.info? e with
  | none => simp [hq] at hs
  | some it =>
    show uponP P o a _ ((execOp a.eval o).run P w)
    have hr2 : (execOp a.eval o).run P w = .ok (.value (.slice (some ⟨w.heap.size, 0, none⟩) 0 0)) (w.alloc (.cells #[] e)) := by
      simp [execOp, ho, Instr.buildSlice, run_underlying hu.h, sizeOf, typeInfo, hq, Instr.fill, newRow, Go.newObj, Sem.run, Result.andThen, Array.eq_empty_of_size_eq_zero (xs := Array.range 0) (by simp)]
    rw [hr2]
    have st : St W (rowP (.slice (some ⟨w.heap.size, 0, none⟩) 0 0) e m 0 [] :: (H ++ dm a.defers)) (w.alloc (.cells #[] e)) :=
      s.alloc ⟨by simp, .inr ⟨w.heap.size, 0, #[], rfl, Hl.one_self _ _, Nat.le_refl _, by unfold maxLen; omega, by simp, by simp⟩⟩
    have := (h w.heap.size).go _ _ (p.put (d := some d) hn _) st
    rw [← hd] at this
    exact this
/-- a store into a row -/
theorem KJ_storeRow {v : Value} {vs xs : List Value} {g i size : Nat} (hx : Env.ev E x = some (.pointer (some ⟨g, off, none⟩))) (hy : Env.ev E y = some v) [hi : SzIs P t m] (hsel : Sel (rowP (.slice (some ⟨g, 0, none⟩) i c) e size i xs) H R) (hv : CellsOf v vs) (hl : vs.length = m) (h1 : Ones vs) (hfit : off + m ≤ xs.length)
    (h : KJ W n k E (rowP (.slice (some ⟨g, 0, none⟩) i c) e size i (lay xs off vs) :: R)) : KJ W n (.oper P (.store t x y) none k) E H := by
  refine ⟨fun a w p s o ho hd => ?_⟩
  replace hsel := hsel.app (dm a.defers)
  have hrow := s.row hsel
  rcases hrow.2 with ⟨q, _⟩ | ⟨g', cap, cur, hvv, hbg, hg, hnc, hcm, hcs, htake⟩
  · cases q
  cases hvv
  have hblk : Blk w g cur.toList e := by simpa [Blk] using hg
  have hxl := hrow.1
  have hcl : xs.length ≤ cur.size := by rw [hxl, hcs]; exact Nat.mul_le_mul_right _ hnc
  have hrun := run_store_lay (P := P) w g off t cur.toList vs e hblk (by simp; omega) (by rw [hl]; exact hi.h) h1.all
  have e1 : (Instr.storeAt t (.pointer (some ⟨g, off, none⟩)) v).run P w = (Instr.storeAt t (.pointer (some ⟨g, off, none⟩)) (.agg vs.toArray)).run P w := by
    simp only [Instr.storeAt, storeVar, hv.spec]
    rfl
  show uponP P o a _ ((execOp a.eval o).run P w)
  have e2 : (execOp a.eval o).run P w = .ok .skip (w.setRow g (lay cur.toList off vs).toArray) := by
    simp [execOp, ho, p.ev hx, p.ev hy, e1, hrun, Result.andThen]
  rw [e2]
  have hlc : (lay cur.toList off vs).length = cur.size := by rw [lay_length _ _ _ (by simp; omega)]; simp
  have st : St W (rowP (.slice (some ⟨g, 0, none⟩) i c) e size i (lay xs off vs) :: (R ++ dm a.defers)) (w.setRow g (lay cur.toList off vs).toArray) := by
    refine s.rowStep hsel ⟨by rw [lay_length _ _ _ (by omega)]; exact hxl, .inr ⟨g, c, _, rfl, hbg, setRow_heap w g cur _ e _ hg, hnc, hcm, by simpa [hlc] using hcs, ?_⟩⟩ ⟨rfl, rfl, rfl, by simp [World.setRow], fun kk _ hk => setRow_other w g kk _ (fun e => hk (by simp [Value.ownBlock, e]))⟩ (fun g' hg' => .inl hg')
    show (lay cur.toList off vs).take (i * size) = lay xs off vs
    rw [← htake]
    have hs : off + vs.length ≤ i * size := by omega
    have hic : i * size ≤ cur.toList.length := by simp; omega
    unfold lay
    rw [List.take_take, Nat.min_eq_left (by omega), List.take_append, List.length_take, Nat.min_eq_left (by simp; omega), List.take_append, List.drop_take]
    rw [List.take_of_length_le (l := cur.toList.take off) (by simp; omega), List.take_of_length_le (l := vs) (by omega)]
    congr 3
    omega
  have := h.go _ _ (p.put (d := none) rfl undef) st
  rw [← hd] at this
  exact this
end
end Go.Proofs.YteklldbfdmaafaaDoor
/-
  More rules of the walk: one text for what several ways have in common; sums with a value of one's choice.
-/
namespace Go.Proofs.YteklldbfdmaafaaDoor
open Go Go.RowKit
section
variable {P : Program} {W : World} {n d : Nat} {E : Env} {H H' R : List SP} {t u e : TypeId} {x y z : Operand} {T : TypeId} {b off : Nat} {k : KK} {q : QQ}
/-- what several ways have in common: K is found by the first of them -/
theorem KJ_rest {G : Prop} {K : KK} (Q : KK → Prop) (main : Q K → G) (r : Q K) : G := main r
theorem at_region {id : Nat} {ops : Array Oper} {dr : Bool} (h : KJ W n (.code P (Code.region id ops dr) q) E H) : KJ W n (.code P (Code.region id ops dr) q) E H := h
theorem at_seq_region {id : Nat} {ops : Array Oper} {dr : Bool} {c : Code} (h : KJ W n (.code P (Code.seq (Code.region id ops dr) c) q) E H) : KJ W n (.code P (Code.seq (Code.region id ops dr) c) q) E H := h
theorem Ev_addI_v {i j r : Int} (hx : Env.ev E x = some (.int .i64 i)) (hy : Env.ev E y = some (.int .i64 j)) (h : i + j = r) (hb : -9223372036854775808 ≤ r ∧ r ≤ 9223372036854775807) : Ev P W n E H (.binOp .add t x y u) (.int .i64 r) := by
  subst h; exact Ev_addI hx hy hb
theorem Ev_mulI_v {i j r : Int} (hx : Env.ev E x = some (.int .i64 i)) (hy : Env.ev E y = some (.int .i64 j)) (h : i * j = r) (hb : -9223372036854775808 ≤ r ∧ r ≤ 9223372036854775807) : Ev P W n E H (.binOp .mul t x y u) (.int .i64 r) := by
  subst h; exact Ev_mulI hx hy hb
theorem Ev_neqS_t {a b : List UInt8} (hx : Env.ev E x = some (strV a)) (hy : Env.ev E y = some (strV b)) (h : a ≠ b) : Ev P W n E H (.binOp .neq t x y u) (.bool true) := by
  have := Ev_neqS (P := P) (W := W) (n := n) (E := E) (H := H) (t := t) (u := u) hx hy
  rw [decide_eq_true (by exact h)] at this; exact this
end
end Go.Proofs.YteklldbfdmaafaaDoor
/-
  Rules of the walk with a value of one's choice.
-/
namespace Go.Proofs.YteklldbfdmaafaaDoor
open Go Go.RowKit
section
variable {P : Program} {W : World} {n : Nat} {E : Env} {H : List SP} {t u : TypeId} {x y : Operand} {kd : IntKind}
theorem Ev_rem_w {i j r : Int} (hx : Env.ev E x = some (.int kd i)) (hy : Env.ev E y = some (.int kd j)) (hb : 0 ≤ i ∧ 0 < j) (h : i % j = r) : Ev P W n E H (.binOp .rem t x y u) (.int kd r) := by subst h; exact Ev_remI hx hy hb
theorem Ev_add_w {i j r : Int} (hx : Env.ev E x = some (.int kd i)) (hy : Env.ev E y = some (.int kd j)) (h : kd.wrap (i + j) = r) : Ev P W n E H (.binOp .add t x y u) (.int kd r) := by subst h; exact Ev_add hx hy
theorem Ev_quo_w {i j r : Int} (hx : Env.ev E x = some (.int .i64 i)) (hy : Env.ev E y = some (.int .i64 j)) (hb : 0 ≤ i ∧ i ≤ 9223372036854775807 ∧ 0 < j) (h : i / j = r) : Ev P W n E H (.binOp .quo t x y u) (.int .i64 r) := by
  subst h; exact Ev_quoI hx hy hb
theorem Ev_or_w {i j r : Int} (hx : Env.ev E x = some (.int kd i)) (hy : Env.ev E y = some (.int kd j)) (h : bits .or kd i j = r) : Ev P W n E H (.binOp .or t x y u) (.int kd r) := by subst h; exact Ev_or hx hy
end
end Go.Proofs.YteklldbfdmaafaaDoor

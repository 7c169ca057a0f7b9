/-
  Tab.
-/
import Derived.Test.YtehheokalgmbgaaBAM
import Derived.Test.YtehheokalgmbgaaProg
/-
  What the program says of its types and functions, by their numbers (printed by gentab.py).
-/
namespace Go.Proofs.Ytehheokalgmbgaa
open Go Go.RowKit
instance : UIs Try.prog 1 (.func #[] #[] false) := ⟨Try.underlying1⟩
instance : ScIs Try.prog 1 := ⟨_, Try.underlying1, rfl⟩
instance : SzIs Try.prog 1 1 := ⟨by kernel_rfl⟩
instance : ByIs Try.prog 1 8 := ⟨by kernel_rfl⟩
instance : ZcIs Try.prog 1 [.nilFunc] := ⟨by kernel_rfl⟩
instance : UIs Try.prog 2 (.int .i64) := ⟨Try.underlying2⟩
instance : ScIs Try.prog 2 := ⟨_, Try.underlying2, rfl⟩
instance : SzIs Try.prog 2 1 := ⟨by kernel_rfl⟩
instance : ByIs Try.prog 2 8 := ⟨by kernel_rfl⟩
instance : ZcIs Try.prog 2 [.int .i64 0] := ⟨by kernel_rfl⟩
instance : UIs Try.prog 3 (.int .i64) := ⟨Try.underlying3⟩
instance : ScIs Try.prog 3 := ⟨_, Try.underlying3, rfl⟩
instance : SzIs Try.prog 3 1 := ⟨by kernel_rfl⟩
instance : ByIs Try.prog 3 8 := ⟨by kernel_rfl⟩
instance : ZcIs Try.prog 3 [.int .i64 0] := ⟨by kernel_rfl⟩
instance : UIs Try.prog 4 (.bool) := ⟨Try.underlying4⟩
instance : ScIs Try.prog 4 := ⟨_, Try.underlying4, rfl⟩
instance : SzIs Try.prog 4 1 := ⟨by kernel_rfl⟩
instance : ByIs Try.prog 4 1 := ⟨by kernel_rfl⟩
instance : ZcIs Try.prog 4 [.bool false] := ⟨by kernel_rfl⟩
instance : UIs Try.prog 5 (.int .u8) := ⟨Try.underlying5⟩
instance : ScIs Try.prog 5 := ⟨_, Try.underlying5, rfl⟩
instance : SzIs Try.prog 5 1 := ⟨by kernel_rfl⟩
instance : ByIs Try.prog 5 1 := ⟨by kernel_rfl⟩
instance : ZcIs Try.prog 5 [.int .u8 0] := ⟨by kernel_rfl⟩
instance : UIs Try.prog 6 (.int .u8) := ⟨Try.underlying6⟩
instance : ScIs Try.prog 6 := ⟨_, Try.underlying6, rfl⟩
instance : SzIs Try.prog 6 1 := ⟨by kernel_rfl⟩
instance : ByIs Try.prog 6 1 := ⟨by kernel_rfl⟩
instance : ZcIs Try.prog 6 [.int .u8 0] := ⟨by kernel_rfl⟩
instance : UIs Try.prog 7 (.struct #[{ name := "x", type := 2, offset := 0, embedded := false, tag := "", pkgPath := "runtime", byteOffset := 0 }, { name := "y", type := 3, offset := 1, embedded := false, tag := "", pkgPath := "runtime", byteOffset := 8 }, { name := "signed", type := 4, offset := 2, embedded := false, tag := "", pkgPath := "runtime", byteOffset := 16 }, { name := "code", type := 6, offset := 3, embedded := false, tag := "", pkgPath := "runtime", byteOffset := 17 }]) := ⟨Try.underlying7⟩
instance : AgIs Try.prog 7 := ⟨_, Try.underlying7, rfl⟩
instance : FldIs Try.prog 7 0 2 0 := ⟨_, _, Try.underlying7, rfl, rfl, rfl⟩
instance : FldIs Try.prog 7 1 3 1 := ⟨_, _, Try.underlying7, rfl, rfl, rfl⟩
instance : FldIs Try.prog 7 2 4 2 := ⟨_, _, Try.underlying7, rfl, rfl, rfl⟩
instance : FldIs Try.prog 7 3 6 3 := ⟨_, _, Try.underlying7, rfl, rfl, rfl⟩
instance : SzIs Try.prog 7 4 := ⟨by kernel_rfl⟩
instance : ByIs Try.prog 7 24 := ⟨by kernel_rfl⟩
instance : BuIs Try.prog 7 [.int .i64 0, .int .i64 0, .bool false, .int .u8 0] [(0, 1), (1, 1), (2, 1), (3, 1)] := ⟨fun _ => by kernel_rfl⟩
instance : ZcIs Try.prog 7 [.int .i64 0, .int .i64 0, .bool false, .int .u8 0] := ⟨by kernel_rfl⟩
instance : UIs Try.prog 8 (.struct #[{ name := "x", type := 2, offset := 0, embedded := false, tag := "", pkgPath := "runtime", byteOffset := 0 }, { name := "y", type := 3, offset := 1, embedded := false, tag := "", pkgPath := "runtime", byteOffset := 8 }, { name := "signed", type := 4, offset := 2, embedded := false, tag := "", pkgPath := "runtime", byteOffset := 16 }, { name := "code", type := 6, offset := 3, embedded := false, tag := "", pkgPath := "runtime", byteOffset := 17 }]) := ⟨Try.underlying8⟩
instance : AgIs Try.prog 8 := ⟨_, Try.underlying8, rfl⟩
instance : FldIs Try.prog 8 0 2 0 := ⟨_, _, Try.underlying8, rfl, rfl, rfl⟩
instance : FldIs Try.prog 8 1 3 1 := ⟨_, _, Try.underlying8, rfl, rfl, rfl⟩
instance : FldIs Try.prog 8 2 4 2 := ⟨_, _, Try.underlying8, rfl, rfl, rfl⟩
instance : FldIs Try.prog 8 3 6 3 := ⟨_, _, Try.underlying8, rfl, rfl, rfl⟩
instance : SzIs Try.prog 8 4 := ⟨by kernel_rfl⟩
instance : ByIs Try.prog 8 24 := ⟨by kernel_rfl⟩
instance : BuIs Try.prog 8 [.int .i64 0, .int .i64 0, .bool false, .int .u8 0] [(0, 1), (1, 1), (2, 1), (3, 1)] := ⟨fun _ => by kernel_rfl⟩
instance : ZcIs Try.prog 8 [.int .i64 0, .int .i64 0, .bool false, .int .u8 0] := ⟨by kernel_rfl⟩
instance : UIs Try.prog 9 (.string) := ⟨Try.underlying9⟩
instance : ScIs Try.prog 9 := ⟨_, Try.underlying9, rfl⟩
instance : SzIs Try.prog 9 1 := ⟨by kernel_rfl⟩
instance : ByIs Try.prog 9 16 := ⟨by kernel_rfl⟩
instance : ZcIs Try.prog 9 [strV []] := ⟨by kernel_rfl⟩
instance : UIs Try.prog 10 (.string) := ⟨Try.underlying10⟩
instance : ScIs Try.prog 10 := ⟨_, Try.underlying10, rfl⟩
instance : SzIs Try.prog 10 1 := ⟨by kernel_rfl⟩
instance : ByIs Try.prog 10 16 := ⟨by kernel_rfl⟩
instance : ZcIs Try.prog 10 [strV []] := ⟨by kernel_rfl⟩
instance : UIs Try.prog 11 (.string) := ⟨Try.underlying11⟩
instance : ScIs Try.prog 11 := ⟨_, Try.underlying11, rfl⟩
instance : SzIs Try.prog 11 1 := ⟨by kernel_rfl⟩
instance : ByIs Try.prog 11 16 := ⟨by kernel_rfl⟩
instance : ZcIs Try.prog 11 [strV []] := ⟨by kernel_rfl⟩
instance : UIs Try.prog 12 (.int .u64) := ⟨Try.underlying12⟩
instance : ScIs Try.prog 12 := ⟨_, Try.underlying12, rfl⟩
instance : SzIs Try.prog 12 1 := ⟨by kernel_rfl⟩
instance : ByIs Try.prog 12 8 := ⟨by kernel_rfl⟩
instance : ZcIs Try.prog 12 [.int .u64 0] := ⟨by kernel_rfl⟩
instance : UIs Try.prog 13 (.struct #[{ name := "msg", type := 9, offset := 0, embedded := false, tag := "", pkgPath := "runtime", byteOffset := 0 }, { name := "addr", type := 12, offset := 1, embedded := false, tag := "", pkgPath := "runtime", byteOffset := 16 }]) := ⟨Try.underlying13⟩
instance : AgIs Try.prog 13 := ⟨_, Try.underlying13, rfl⟩
instance : FldIs Try.prog 13 0 9 0 := ⟨_, _, Try.underlying13, rfl, rfl, rfl⟩
instance : FldIs Try.prog 13 1 12 1 := ⟨_, _, Try.underlying13, rfl, rfl, rfl⟩
instance : SzIs Try.prog 13 2 := ⟨by kernel_rfl⟩
instance : ByIs Try.prog 13 24 := ⟨by kernel_rfl⟩
instance : BuIs Try.prog 13 [strV [], .int .u64 0] [(0, 1), (1, 1)] := ⟨fun _ => by kernel_rfl⟩
instance : ZcIs Try.prog 13 [strV [], .int .u64 0] := ⟨by kernel_rfl⟩
instance : UIs Try.prog 14 (.struct #[{ name := "msg", type := 9, offset := 0, embedded := false, tag := "", pkgPath := "runtime", byteOffset := 0 }, { name := "addr", type := 12, offset := 1, embedded := false, tag := "", pkgPath := "runtime", byteOffset := 16 }]) := ⟨Try.underlying14⟩
instance : AgIs Try.prog 14 := ⟨_, Try.underlying14, rfl⟩
instance : FldIs Try.prog 14 0 9 0 := ⟨_, _, Try.underlying14, rfl, rfl, rfl⟩
instance : FldIs Try.prog 14 1 12 1 := ⟨_, _, Try.underlying14, rfl, rfl, rfl⟩
instance : SzIs Try.prog 14 2 := ⟨by kernel_rfl⟩
instance : ByIs Try.prog 14 24 := ⟨by kernel_rfl⟩
instance : BuIs Try.prog 14 [strV [], .int .u64 0] [(0, 1), (1, 1)] := ⟨fun _ => by kernel_rfl⟩
instance : ZcIs Try.prog 14 [strV [], .int .u64 0] := ⟨by kernel_rfl⟩
instance : UIs Try.prog 15 (.pointer 137) := ⟨Try.underlying15⟩
instance : ScIs Try.prog 15 := ⟨_, Try.underlying15, rfl⟩
instance : SzIs Try.prog 15 1 := ⟨by kernel_rfl⟩
instance : ByIs Try.prog 15 8 := ⟨by kernel_rfl⟩
instance : ZcIs Try.prog 15 [.pointer none] := ⟨by kernel_rfl⟩
instance : UIs Try.prog 16 (.pointer 140) := ⟨Try.underlying16⟩
instance : ScIs Try.prog 16 := ⟨_, Try.underlying16, rfl⟩
instance : SzIs Try.prog 16 1 := ⟨by kernel_rfl⟩
instance : ByIs Try.prog 16 8 := ⟨by kernel_rfl⟩
instance : ZcIs Try.prog 16 [.pointer none] := ⟨by kernel_rfl⟩
instance : UIs Try.prog 17 (.pointer 148) := ⟨Try.underlying17⟩
instance : ScIs Try.prog 17 := ⟨_, Try.underlying17, rfl⟩
instance : SzIs Try.prog 17 1 := ⟨by kernel_rfl⟩
instance : ByIs Try.prog 17 8 := ⟨by kernel_rfl⟩
instance : ZcIs Try.prog 17 [.pointer none] := ⟨by kernel_rfl⟩
instance : UIs Try.prog 18 (.struct #[{ name := "typ", type := 17, offset := 0, embedded := false, tag := "", pkgPath := "internal/runtime/maps", byteOffset := 0 }]) := ⟨Try.underlying18⟩
instance : AgIs Try.prog 18 := ⟨_, Try.underlying18, rfl⟩
instance : FldIs Try.prog 18 0 17 0 := ⟨_, _, Try.underlying18, rfl, rfl, rfl⟩
instance : SzIs Try.prog 18 1 := ⟨by kernel_rfl⟩
instance : ByIs Try.prog 18 8 := ⟨by kernel_rfl⟩
instance : BuIs Try.prog 18 [.pointer none] [(0, 1)] := ⟨fun _ => by kernel_rfl⟩
instance : ZcIs Try.prog 18 [.pointer none] := ⟨by kernel_rfl⟩
instance : UIs Try.prog 19 (.struct #[{ name := "typ", type := 17, offset := 0, embedded := false, tag := "", pkgPath := "internal/runtime/maps", byteOffset := 0 }]) := ⟨Try.underlying19⟩
instance : AgIs Try.prog 19 := ⟨_, Try.underlying19, rfl⟩
instance : FldIs Try.prog 19 0 17 0 := ⟨_, _, Try.underlying19, rfl, rfl, rfl⟩
instance : SzIs Try.prog 19 1 := ⟨by kernel_rfl⟩
instance : ByIs Try.prog 19 8 := ⟨by kernel_rfl⟩
instance : BuIs Try.prog 19 [.pointer none] [(0, 1)] := ⟨fun _ => by kernel_rfl⟩
instance : ZcIs Try.prog 19 [.pointer none] := ⟨by kernel_rfl⟩
instance : UIs Try.prog 20 (.interface #[]) := ⟨Try.underlying20⟩
instance : ScIs Try.prog 20 := ⟨_, Try.underlying20, rfl⟩
instance : SzIs Try.prog 20 1 := ⟨by kernel_rfl⟩
instance : ByIs Try.prog 20 16 := ⟨by kernel_rfl⟩
instance : ZcIs Try.prog 20 [.nilIface] := ⟨by kernel_rfl⟩
instance : UIs Try.prog 21 (.int .i32) := ⟨Try.underlying21⟩
instance : ScIs Try.prog 21 := ⟨_, Try.underlying21, rfl⟩
instance : SzIs Try.prog 21 1 := ⟨by kernel_rfl⟩
instance : ByIs Try.prog 21 4 := ⟨by kernel_rfl⟩
instance : ZcIs Try.prog 21 [.int .i32 0] := ⟨by kernel_rfl⟩
instance : UIs Try.prog 22 (.slice 33) := ⟨Try.underlying22⟩
instance : ScIs Try.prog 22 := ⟨_, Try.underlying22, rfl⟩
instance : SzIs Try.prog 22 1 := ⟨by kernel_rfl⟩
instance : ByIs Try.prog 22 24 := ⟨by kernel_rfl⟩
instance : ZcIs Try.prog 22 [.slice none 0 0] := ⟨by kernel_rfl⟩
instance : UIs Try.prog 23 (.func #[] #[4] false) := ⟨Try.underlying23⟩
instance : ScIs Try.prog 23 := ⟨_, Try.underlying23, rfl⟩
instance : SzIs Try.prog 23 1 := ⟨by kernel_rfl⟩
instance : ByIs Try.prog 23 8 := ⟨by kernel_rfl⟩
instance : ZcIs Try.prog 23 [.nilFunc] := ⟨by kernel_rfl⟩
instance : UIs Try.prog 24 (.pointer 62) := ⟨Try.underlying24⟩
instance : ScIs Try.prog 24 := ⟨_, Try.underlying24, rfl⟩
instance : SzIs Try.prog 24 1 := ⟨by kernel_rfl⟩
instance : ByIs Try.prog 24 8 := ⟨by kernel_rfl⟩
instance : ZcIs Try.prog 24 [.pointer none] := ⟨by kernel_rfl⟩
instance : UIs Try.prog 25 (.func #[3] #[24] false) := ⟨Try.underlying25⟩
instance : ScIs Try.prog 25 := ⟨_, Try.underlying25, rfl⟩
instance : SzIs Try.prog 25 1 := ⟨by kernel_rfl⟩
instance : ByIs Try.prog 25 8 := ⟨by kernel_rfl⟩
instance : ZcIs Try.prog 25 [.nilFunc] := ⟨by kernel_rfl⟩
instance : UIs Try.prog 26 (.pointer 29) := ⟨Try.underlying26⟩
instance : ScIs Try.prog 26 := ⟨_, Try.underlying26, rfl⟩
instance : SzIs Try.prog 26 1 := ⟨by kernel_rfl⟩
instance : ByIs Try.prog 26 8 := ⟨by kernel_rfl⟩
instance : ZcIs Try.prog 26 [.pointer none] := ⟨by kernel_rfl⟩
instance : UIs Try.prog 27 (.slice 66) := ⟨Try.underlying27⟩
instance : ScIs Try.prog 27 := ⟨_, Try.underlying27, rfl⟩
instance : SzIs Try.prog 27 1 := ⟨by kernel_rfl⟩
instance : ByIs Try.prog 27 24 := ⟨by kernel_rfl⟩
instance : ZcIs Try.prog 27 [.slice none 0 0] := ⟨by kernel_rfl⟩
instance : UIs Try.prog 28 (.struct #[{ name := "Number", type := 3, offset := 0, embedded := false, tag := "", pkgPath := "", byteOffset := 0 }, { name := "Heard", type := 27, offset := 1, embedded := false, tag := "", pkgPath := "", byteOffset := 8 }]) := ⟨Try.underlying28⟩
instance : AgIs Try.prog 28 := ⟨_, Try.underlying28, rfl⟩
instance : FldIs Try.prog 28 0 3 0 := ⟨_, _, Try.underlying28, rfl, rfl, rfl⟩
instance : FldIs Try.prog 28 1 27 1 := ⟨_, _, Try.underlying28, rfl, rfl, rfl⟩
instance : SzIs Try.prog 28 2 := ⟨by kernel_rfl⟩
instance : ByIs Try.prog 28 32 := ⟨by kernel_rfl⟩
instance : BuIs Try.prog 28 [.int .i64 0, .slice none 0 0] [(0, 1), (1, 1)] := ⟨fun _ => by kernel_rfl⟩
instance : ZcIs Try.prog 28 [.int .i64 0, .slice none 0 0] := ⟨by kernel_rfl⟩
instance : UIs Try.prog 29 (.struct #[{ name := "Number", type := 3, offset := 0, embedded := false, tag := "", pkgPath := "", byteOffset := 0 }, { name := "Heard", type := 27, offset := 1, embedded := false, tag := "", pkgPath := "", byteOffset := 8 }]) := ⟨Try.underlying29⟩
instance : AgIs Try.prog 29 := ⟨_, Try.underlying29, rfl⟩
instance : FldIs Try.prog 29 0 3 0 := ⟨_, _, Try.underlying29, rfl, rfl, rfl⟩
instance : FldIs Try.prog 29 1 27 1 := ⟨_, _, Try.underlying29, rfl, rfl, rfl⟩
instance : SzIs Try.prog 29 2 := ⟨by kernel_rfl⟩
instance : ByIs Try.prog 29 32 := ⟨by kernel_rfl⟩
instance : BuIs Try.prog 29 [.int .i64 0, .slice none 0 0] [(0, 1), (1, 1)] := ⟨fun _ => by kernel_rfl⟩
instance : ZcIs Try.prog 29 [.int .i64 0, .slice none 0 0] := ⟨by kernel_rfl⟩
instance : UIs Try.prog 30 (.struct #[{ name := "Rail", type := 3, offset := 0, embedded := false, tag := "", pkgPath := "", byteOffset := 0 }, { name := "Kind", type := 3, offset := 1, embedded := false, tag := "", pkgPath := "", byteOffset := 8 }, { name := "Token", type := 9, offset := 2, embedded := false, tag := "", pkgPath := "", byteOffset := 16 }, { name := "Attempt", type := 3, offset := 3, embedded := false, tag := "", pkgPath := "", byteOffset := 32 }, { name := "Amount", type := 2, offset := 4, embedded := false, tag := "", pkgPath := "", byteOffset := 40 }, { name := "Currency", type := 9, offset := 5, embedded := false, tag := "", pkgPath := "", byteOffset := 48 }, { name := "Payee", type := 9, offset := 6, embedded := false, tag := "", pkgPath := "", byteOffset := 64 }]) := ⟨Try.underlying30⟩
instance : AgIs Try.prog 30 := ⟨_, Try.underlying30, rfl⟩
instance : FldIs Try.prog 30 0 3 0 := ⟨_, _, Try.underlying30, rfl, rfl, rfl⟩
instance : FldIs Try.prog 30 1 3 1 := ⟨_, _, Try.underlying30, rfl, rfl, rfl⟩
instance : FldIs Try.prog 30 2 9 2 := ⟨_, _, Try.underlying30, rfl, rfl, rfl⟩
instance : FldIs Try.prog 30 3 3 3 := ⟨_, _, Try.underlying30, rfl, rfl, rfl⟩
instance : FldIs Try.prog 30 4 2 4 := ⟨_, _, Try.underlying30, rfl, rfl, rfl⟩
instance : FldIs Try.prog 30 5 9 5 := ⟨_, _, Try.underlying30, rfl, rfl, rfl⟩
instance : FldIs Try.prog 30 6 9 6 := ⟨_, _, Try.underlying30, rfl, rfl, rfl⟩
instance : SzIs Try.prog 30 7 := ⟨by kernel_rfl⟩
instance : ByIs Try.prog 30 80 := ⟨by kernel_rfl⟩
instance : BuIs Try.prog 30 [.int .i64 0, .int .i64 0, strV [], .int .i64 0, .int .i64 0, strV [], strV []] [(0, 1), (1, 1), (2, 1), (3, 1), (4, 1), (5, 1), (6, 1)] := ⟨fun _ => by kernel_rfl⟩
instance : ZcIs Try.prog 30 [.int .i64 0, .int .i64 0, strV [], .int .i64 0, .int .i64 0, strV [], strV []] := ⟨by kernel_rfl⟩
instance : UIs Try.prog 31 (.struct #[{ name := "Rail", type := 3, offset := 0, embedded := false, tag := "", pkgPath := "", byteOffset := 0 }, { name := "Kind", type := 3, offset := 1, embedded := false, tag := "", pkgPath := "", byteOffset := 8 }, { name := "Token", type := 9, offset := 2, embedded := false, tag := "", pkgPath := "", byteOffset := 16 }, { name := "Attempt", type := 3, offset := 3, embedded := false, tag := "", pkgPath := "", byteOffset := 32 }, { name := "Amount", type := 2, offset := 4, embedded := false, tag := "", pkgPath := "", byteOffset := 40 }, { name := "Currency", type := 9, offset := 5, embedded := false, tag := "", pkgPath := "", byteOffset := 48 }, { name := "Payee", type := 9, offset := 6, embedded := false, tag := "", pkgPath := "", byteOffset := 64 }]) := ⟨Try.underlying31⟩
instance : AgIs Try.prog 31 := ⟨_, Try.underlying31, rfl⟩
instance : FldIs Try.prog 31 0 3 0 := ⟨_, _, Try.underlying31, rfl, rfl, rfl⟩
instance : FldIs Try.prog 31 1 3 1 := ⟨_, _, Try.underlying31, rfl, rfl, rfl⟩
instance : FldIs Try.prog 31 2 9 2 := ⟨_, _, Try.underlying31, rfl, rfl, rfl⟩
instance : FldIs Try.prog 31 3 3 3 := ⟨_, _, Try.underlying31, rfl, rfl, rfl⟩
instance : FldIs Try.prog 31 4 2 4 := ⟨_, _, Try.underlying31, rfl, rfl, rfl⟩
instance : FldIs Try.prog 31 5 9 5 := ⟨_, _, Try.underlying31, rfl, rfl, rfl⟩
instance : FldIs Try.prog 31 6 9 6 := ⟨_, _, Try.underlying31, rfl, rfl, rfl⟩
instance : SzIs Try.prog 31 7 := ⟨by kernel_rfl⟩
instance : ByIs Try.prog 31 80 := ⟨by kernel_rfl⟩
instance : BuIs Try.prog 31 [.int .i64 0, .int .i64 0, strV [], .int .i64 0, .int .i64 0, strV [], strV []] [(0, 1), (1, 1), (2, 1), (3, 1), (4, 1), (5, 1), (6, 1)] := ⟨fun _ => by kernel_rfl⟩
instance : ZcIs Try.prog 31 [.int .i64 0, .int .i64 0, strV [], .int .i64 0, .int .i64 0, strV [], strV []] := ⟨by kernel_rfl⟩
instance : UIs Try.prog 32 (.struct #[{ name := "M", type := 31, offset := 0, embedded := false, tag := "", pkgPath := "", byteOffset := 0 }, { name := "Verdict", type := 3, offset := 7, embedded := false, tag := "", pkgPath := "", byteOffset := 80 }, { name := "Ask", type := 4, offset := 8, embedded := false, tag := "", pkgPath := "", byteOffset := 88 }]) := ⟨Try.underlying32⟩
instance : AgIs Try.prog 32 := ⟨_, Try.underlying32, rfl⟩
instance : FldIs Try.prog 32 0 31 0 := ⟨_, _, Try.underlying32, rfl, rfl, rfl⟩
instance : FldIs Try.prog 32 1 3 7 := ⟨_, _, Try.underlying32, rfl, rfl, rfl⟩
instance : FldIs Try.prog 32 2 4 8 := ⟨_, _, Try.underlying32, rfl, rfl, rfl⟩
instance : SzIs Try.prog 32 9 := ⟨by kernel_rfl⟩
instance : ByIs Try.prog 32 96 := ⟨by kernel_rfl⟩
instance : BuIs Try.prog 32 [.int .i64 0, .int .i64 0, strV [], .int .i64 0, .int .i64 0, strV [], strV [], .int .i64 0, .bool false] [(0, 7), (7, 1), (8, 1)] := ⟨fun _ => by kernel_rfl⟩
instance : ZcIs Try.prog 32 [.int .i64 0, .int .i64 0, strV [], .int .i64 0, .int .i64 0, strV [], strV [], .int .i64 0, .bool false] := ⟨by kernel_rfl⟩
instance : UIs Try.prog 33 (.struct #[{ name := "M", type := 31, offset := 0, embedded := false, tag := "", pkgPath := "", byteOffset := 0 }, { name := "Verdict", type := 3, offset := 7, embedded := false, tag := "", pkgPath := "", byteOffset := 80 }, { name := "Ask", type := 4, offset := 8, embedded := false, tag := "", pkgPath := "", byteOffset := 88 }]) := ⟨Try.underlying33⟩
instance : AgIs Try.prog 33 := ⟨_, Try.underlying33, rfl⟩
instance : FldIs Try.prog 33 0 31 0 := ⟨_, _, Try.underlying33, rfl, rfl, rfl⟩
instance : FldIs Try.prog 33 1 3 7 := ⟨_, _, Try.underlying33, rfl, rfl, rfl⟩
instance : FldIs Try.prog 33 2 4 8 := ⟨_, _, Try.underlying33, rfl, rfl, rfl⟩
instance : SzIs Try.prog 33 9 := ⟨by kernel_rfl⟩
instance : ByIs Try.prog 33 96 := ⟨by kernel_rfl⟩
instance : BuIs Try.prog 33 [.int .i64 0, .int .i64 0, strV [], .int .i64 0, .int .i64 0, strV [], strV [], .int .i64 0, .bool false] [(0, 7), (7, 1), (8, 1)] := ⟨fun _ => by kernel_rfl⟩
instance : ZcIs Try.prog 33 [.int .i64 0, .int .i64 0, strV [], .int .i64 0, .int .i64 0, strV [], strV [], .int .i64 0, .bool false] := ⟨by kernel_rfl⟩
instance : UIs Try.prog 34 (.func #[24, 26, 33] #[4] false) := ⟨Try.underlying34⟩
instance : ScIs Try.prog 34 := ⟨_, Try.underlying34, rfl⟩
instance : SzIs Try.prog 34 1 := ⟨by kernel_rfl⟩
instance : ByIs Try.prog 34 8 := ⟨by kernel_rfl⟩
instance : ZcIs Try.prog 34 [.nilFunc] := ⟨by kernel_rfl⟩
instance : UIs Try.prog 35 (.func #[36, 36] #[4] false) := ⟨Try.underlying35⟩
instance : ScIs Try.prog 35 := ⟨_, Try.underlying35, rfl⟩
instance : SzIs Try.prog 35 1 := ⟨by kernel_rfl⟩
instance : ByIs Try.prog 35 8 := ⟨by kernel_rfl⟩
instance : ZcIs Try.prog 35 [.nilFunc] := ⟨by kernel_rfl⟩
instance : UIs Try.prog 36 (.slice 40) := ⟨Try.underlying36⟩
instance : ScIs Try.prog 36 := ⟨_, Try.underlying36, rfl⟩
instance : SzIs Try.prog 36 1 := ⟨by kernel_rfl⟩
instance : ByIs Try.prog 36 24 := ⟨by kernel_rfl⟩
instance : ZcIs Try.prog 36 [.slice none 0 0] := ⟨by kernel_rfl⟩
instance : UIs Try.prog 37 (.func #[] #[36] false) := ⟨Try.underlying37⟩
instance : ScIs Try.prog 37 := ⟨_, Try.underlying37, rfl⟩
instance : SzIs Try.prog 37 1 := ⟨by kernel_rfl⟩
instance : ByIs Try.prog 37 8 := ⟨by kernel_rfl⟩
instance : ZcIs Try.prog 37 [.nilFunc] := ⟨by kernel_rfl⟩
instance : UIs Try.prog 38 (.func #[3, 22] #[4] false) := ⟨Try.underlying38⟩
instance : ScIs Try.prog 38 := ⟨_, Try.underlying38, rfl⟩
instance : SzIs Try.prog 38 1 := ⟨by kernel_rfl⟩
instance : ByIs Try.prog 38 8 := ⟨by kernel_rfl⟩
instance : ZcIs Try.prog 38 [.nilFunc] := ⟨by kernel_rfl⟩
instance : UIs Try.prog 39 (.struct #[{ name := "Token", type := 9, offset := 0, embedded := false, tag := "", pkgPath := "", byteOffset := 0 }, { name := "Kind", type := 3, offset := 1, embedded := false, tag := "", pkgPath := "", byteOffset := 16 }, { name := "Amount", type := 2, offset := 2, embedded := false, tag := "", pkgPath := "", byteOffset := 24 }, { name := "Payee", type := 9, offset := 3, embedded := false, tag := "", pkgPath := "", byteOffset := 32 }]) := ⟨Try.underlying39⟩
instance : AgIs Try.prog 39 := ⟨_, Try.underlying39, rfl⟩
instance : FldIs Try.prog 39 0 9 0 := ⟨_, _, Try.underlying39, rfl, rfl, rfl⟩
instance : FldIs Try.prog 39 1 3 1 := ⟨_, _, Try.underlying39, rfl, rfl, rfl⟩
instance : FldIs Try.prog 39 2 2 2 := ⟨_, _, Try.underlying39, rfl, rfl, rfl⟩
instance : FldIs Try.prog 39 3 9 3 := ⟨_, _, Try.underlying39, rfl, rfl, rfl⟩
instance : SzIs Try.prog 39 4 := ⟨by kernel_rfl⟩
instance : ByIs Try.prog 39 48 := ⟨by kernel_rfl⟩
instance : BuIs Try.prog 39 [strV [], .int .i64 0, .int .i64 0, strV []] [(0, 1), (1, 1), (2, 1), (3, 1)] := ⟨fun _ => by kernel_rfl⟩
instance : ZcIs Try.prog 39 [strV [], .int .i64 0, .int .i64 0, strV []] := ⟨by kernel_rfl⟩
instance : UIs Try.prog 40 (.struct #[{ name := "Token", type := 9, offset := 0, embedded := false, tag := "", pkgPath := "", byteOffset := 0 }, { name := "Kind", type := 3, offset := 1, embedded := false, tag := "", pkgPath := "", byteOffset := 16 }, { name := "Amount", type := 2, offset := 2, embedded := false, tag := "", pkgPath := "", byteOffset := 24 }, { name := "Payee", type := 9, offset := 3, embedded := false, tag := "", pkgPath := "", byteOffset := 32 }]) := ⟨Try.underlying40⟩
instance : AgIs Try.prog 40 := ⟨_, Try.underlying40, rfl⟩
instance : FldIs Try.prog 40 0 9 0 := ⟨_, _, Try.underlying40, rfl, rfl, rfl⟩
instance : FldIs Try.prog 40 1 3 1 := ⟨_, _, Try.underlying40, rfl, rfl, rfl⟩
instance : FldIs Try.prog 40 2 2 2 := ⟨_, _, Try.underlying40, rfl, rfl, rfl⟩
instance : FldIs Try.prog 40 3 9 3 := ⟨_, _, Try.underlying40, rfl, rfl, rfl⟩
instance : SzIs Try.prog 40 4 := ⟨by kernel_rfl⟩
instance : ByIs Try.prog 40 48 := ⟨by kernel_rfl⟩
instance : BuIs Try.prog 40 [strV [], .int .i64 0, .int .i64 0, strV []] [(0, 1), (1, 1), (2, 1), (3, 1)] := ⟨fun _ => by kernel_rfl⟩
instance : ZcIs Try.prog 40 [strV [], .int .i64 0, .int .i64 0, strV []] := ⟨by kernel_rfl⟩
instance : UIs Try.prog 42 (.func #[9] #[40, 4] false) := ⟨Try.underlying42⟩
instance : ScIs Try.prog 42 := ⟨_, Try.underlying42, rfl⟩
instance : SzIs Try.prog 42 1 := ⟨by kernel_rfl⟩
instance : ByIs Try.prog 42 8 := ⟨by kernel_rfl⟩
instance : ZcIs Try.prog 42 [.nilFunc] := ⟨by kernel_rfl⟩
instance : UIs Try.prog 43 (.func #[9, 3] #[3] false) := ⟨Try.underlying43⟩
instance : ScIs Try.prog 43 := ⟨_, Try.underlying43, rfl⟩
instance : SzIs Try.prog 43 1 := ⟨by kernel_rfl⟩
instance : ByIs Try.prog 43 8 := ⟨by kernel_rfl⟩
instance : ZcIs Try.prog 43 [.nilFunc] := ⟨by kernel_rfl⟩
instance : UIs Try.prog 44 (.struct #[{ name := "Rail", type := 3, offset := 0, embedded := false, tag := "", pkgPath := "", byteOffset := 0 }, { name := "Kind", type := 3, offset := 1, embedded := false, tag := "", pkgPath := "", byteOffset := 8 }, { name := "Token", type := 9, offset := 2, embedded := false, tag := "", pkgPath := "", byteOffset := 16 }]) := ⟨Try.underlying44⟩
instance : AgIs Try.prog 44 := ⟨_, Try.underlying44, rfl⟩
instance : FldIs Try.prog 44 0 3 0 := ⟨_, _, Try.underlying44, rfl, rfl, rfl⟩
instance : FldIs Try.prog 44 1 3 1 := ⟨_, _, Try.underlying44, rfl, rfl, rfl⟩
instance : FldIs Try.prog 44 2 9 2 := ⟨_, _, Try.underlying44, rfl, rfl, rfl⟩
instance : SzIs Try.prog 44 3 := ⟨by kernel_rfl⟩
instance : ByIs Try.prog 44 32 := ⟨by kernel_rfl⟩
instance : BuIs Try.prog 44 [.int .i64 0, .int .i64 0, strV []] [(0, 1), (1, 1), (2, 1)] := ⟨fun _ => by kernel_rfl⟩
instance : ZcIs Try.prog 44 [.int .i64 0, .int .i64 0, strV []] := ⟨by kernel_rfl⟩
instance : UIs Try.prog 45 (.struct #[{ name := "Rail", type := 3, offset := 0, embedded := false, tag := "", pkgPath := "", byteOffset := 0 }, { name := "Kind", type := 3, offset := 1, embedded := false, tag := "", pkgPath := "", byteOffset := 8 }, { name := "Token", type := 9, offset := 2, embedded := false, tag := "", pkgPath := "", byteOffset := 16 }]) := ⟨Try.underlying45⟩
instance : AgIs Try.prog 45 := ⟨_, Try.underlying45, rfl⟩
instance : FldIs Try.prog 45 0 3 0 := ⟨_, _, Try.underlying45, rfl, rfl, rfl⟩
instance : FldIs Try.prog 45 1 3 1 := ⟨_, _, Try.underlying45, rfl, rfl, rfl⟩
instance : FldIs Try.prog 45 2 9 2 := ⟨_, _, Try.underlying45, rfl, rfl, rfl⟩
instance : SzIs Try.prog 45 3 := ⟨by kernel_rfl⟩
instance : ByIs Try.prog 45 32 := ⟨by kernel_rfl⟩
instance : BuIs Try.prog 45 [.int .i64 0, .int .i64 0, strV []] [(0, 1), (1, 1), (2, 1)] := ⟨fun _ => by kernel_rfl⟩
instance : ZcIs Try.prog 45 [.int .i64 0, .int .i64 0, strV []] := ⟨by kernel_rfl⟩
instance : UIs Try.prog 47 (.func #[31, 3] #[45, 4] false) := ⟨Try.underlying47⟩
instance : ScIs Try.prog 47 := ⟨_, Try.underlying47, rfl⟩
instance : SzIs Try.prog 47 1 := ⟨by kernel_rfl⟩
instance : ByIs Try.prog 47 8 := ⟨by kernel_rfl⟩
instance : ZcIs Try.prog 47 [.nilFunc] := ⟨by kernel_rfl⟩
instance : UIs Try.prog 48 (.func #[3] #[4] false) := ⟨Try.underlying48⟩
instance : ScIs Try.prog 48 := ⟨_, Try.underlying48, rfl⟩
instance : SzIs Try.prog 48 1 := ⟨by kernel_rfl⟩
instance : ByIs Try.prog 48 8 := ⟨by kernel_rfl⟩
instance : ZcIs Try.prog 48 [.nilFunc] := ⟨by kernel_rfl⟩
instance : UIs Try.prog 49 (.func #[36, 24] #[4] false) := ⟨Try.underlying49⟩
instance : ScIs Try.prog 49 := ⟨_, Try.underlying49, rfl⟩
instance : SzIs Try.prog 49 1 := ⟨by kernel_rfl⟩
instance : ByIs Try.prog 49 8 := ⟨by kernel_rfl⟩
instance : ZcIs Try.prog 49 [.nilFunc] := ⟨by kernel_rfl⟩
instance : UIs Try.prog 50 (.func #[3, 22, 9] #[4] false) := ⟨Try.underlying50⟩
instance : ScIs Try.prog 50 := ⟨_, Try.underlying50, rfl⟩
instance : SzIs Try.prog 50 1 := ⟨by kernel_rfl⟩
instance : ByIs Try.prog 50 8 := ⟨by kernel_rfl⟩
instance : ZcIs Try.prog 50 [.nilFunc] := ⟨by kernel_rfl⟩
instance : UIs Try.prog 51 (.slice 84) := ⟨Try.underlying51⟩
instance : ScIs Try.prog 51 := ⟨_, Try.underlying51, rfl⟩
instance : SzIs Try.prog 51 1 := ⟨by kernel_rfl⟩
instance : ByIs Try.prog 51 24 := ⟨by kernel_rfl⟩
instance : ZcIs Try.prog 51 [.slice none 0 0] := ⟨by kernel_rfl⟩
instance : UIs Try.prog 52 (.pointer 89) := ⟨Try.underlying52⟩
instance : ScIs Try.prog 52 := ⟨_, Try.underlying52, rfl⟩
instance : SzIs Try.prog 52 1 := ⟨by kernel_rfl⟩
instance : ByIs Try.prog 52 8 := ⟨by kernel_rfl⟩
instance : ZcIs Try.prog 52 [.pointer none] := ⟨by kernel_rfl⟩
instance : UIs Try.prog 53 (.func #[51] #[52] false) := ⟨Try.underlying53⟩
instance : ScIs Try.prog 53 := ⟨_, Try.underlying53, rfl⟩
instance : SzIs Try.prog 53 1 := ⟨by kernel_rfl⟩
instance : ByIs Try.prog 53 8 := ⟨by kernel_rfl⟩
instance : ZcIs Try.prog 53 [.nilFunc] := ⟨by kernel_rfl⟩
instance : UIs Try.prog 54 (.slice 79) := ⟨Try.underlying54⟩
instance : ScIs Try.prog 54 := ⟨_, Try.underlying54, rfl⟩
instance : SzIs Try.prog 54 1 := ⟨by kernel_rfl⟩
instance : ByIs Try.prog 54 24 := ⟨by kernel_rfl⟩
instance : ZcIs Try.prog 54 [.slice none 0 0] := ⟨by kernel_rfl⟩
instance : UIs Try.prog 55 (.func #[3] #[54] false) := ⟨Try.underlying55⟩
instance : ScIs Try.prog 55 := ⟨_, Try.underlying55, rfl⟩
instance : SzIs Try.prog 55 1 := ⟨by kernel_rfl⟩
instance : ByIs Try.prog 55 8 := ⟨by kernel_rfl⟩
instance : ZcIs Try.prog 55 [.nilFunc] := ⟨by kernel_rfl⟩
instance : UIs Try.prog 56 (.func #[54, 54] #[4] false) := ⟨Try.underlying56⟩
instance : ScIs Try.prog 56 := ⟨_, Try.underlying56, rfl⟩
instance : SzIs Try.prog 56 1 := ⟨by kernel_rfl⟩
instance : ByIs Try.prog 56 8 := ⟨by kernel_rfl⟩
instance : ZcIs Try.prog 56 [.nilFunc] := ⟨by kernel_rfl⟩
instance : UIs Try.prog 57 (.func #[52] #[54] false) := ⟨Try.underlying57⟩
instance : ScIs Try.prog 57 := ⟨_, Try.underlying57, rfl⟩
instance : SzIs Try.prog 57 1 := ⟨by kernel_rfl⟩
instance : ByIs Try.prog 57 8 := ⟨by kernel_rfl⟩
instance : ZcIs Try.prog 57 [.nilFunc] := ⟨by kernel_rfl⟩
instance : UIs Try.prog 58 (.func #[51, 3, 3] #[4] false) := ⟨Try.underlying58⟩
instance : ScIs Try.prog 58 := ⟨_, Try.underlying58, rfl⟩
instance : SzIs Try.prog 58 1 := ⟨by kernel_rfl⟩
instance : ByIs Try.prog 58 8 := ⟨by kernel_rfl⟩
instance : ZcIs Try.prog 58 [.nilFunc] := ⟨by kernel_rfl⟩
instance : UIs Try.prog 59 (.map 9 40) := ⟨Try.underlying59⟩
instance : ScIs Try.prog 59 := ⟨_, Try.underlying59, rfl⟩
instance : SzIs Try.prog 59 1 := ⟨by kernel_rfl⟩
instance : ByIs Try.prog 59 8 := ⟨by kernel_rfl⟩
instance : ZcIs Try.prog 59 [.map none] := ⟨by kernel_rfl⟩
instance : UIs Try.prog 60 (.map 68 3) := ⟨Try.underlying60⟩
instance : ScIs Try.prog 60 := ⟨_, Try.underlying60, rfl⟩
instance : SzIs Try.prog 60 1 := ⟨by kernel_rfl⟩
instance : ByIs Try.prog 60 8 := ⟨by kernel_rfl⟩
instance : ZcIs Try.prog 60 [.map none] := ⟨by kernel_rfl⟩
instance : UIs Try.prog 61 (.struct #[{ name := "number", type := 3, offset := 0, embedded := false, tag := "", pkgPath := "remit/rail", byteOffset := 0 }, { name := "effects", type := 59, offset := 1, embedded := false, tag := "", pkgPath := "remit/rail", byteOffset := 8 }, { name := "count", type := 60, offset := 2, embedded := false, tag := "", pkgPath := "remit/rail", byteOffset := 16 }]) := ⟨Try.underlying61⟩
instance : AgIs Try.prog 61 := ⟨_, Try.underlying61, rfl⟩
instance : FldIs Try.prog 61 0 3 0 := ⟨_, _, Try.underlying61, rfl, rfl, rfl⟩
instance : FldIs Try.prog 61 1 59 1 := ⟨_, _, Try.underlying61, rfl, rfl, rfl⟩
instance : FldIs Try.prog 61 2 60 2 := ⟨_, _, Try.underlying61, rfl, rfl, rfl⟩
instance : SzIs Try.prog 61 3 := ⟨by kernel_rfl⟩
instance : ByIs Try.prog 61 24 := ⟨by kernel_rfl⟩
instance : BuIs Try.prog 61 [.int .i64 0, .map none, .map none] [(0, 1), (1, 1), (2, 1)] := ⟨fun _ => by kernel_rfl⟩
instance : ZcIs Try.prog 61 [.int .i64 0, .map none, .map none] := ⟨by kernel_rfl⟩
instance : UIs Try.prog 62 (.struct #[{ name := "number", type := 3, offset := 0, embedded := false, tag := "", pkgPath := "remit/rail", byteOffset := 0 }, { name := "effects", type := 59, offset := 1, embedded := false, tag := "", pkgPath := "remit/rail", byteOffset := 8 }, { name := "count", type := 60, offset := 2, embedded := false, tag := "", pkgPath := "remit/rail", byteOffset := 16 }]) := ⟨Try.underlying62⟩
instance : AgIs Try.prog 62 := ⟨_, Try.underlying62, rfl⟩
instance : FldIs Try.prog 62 0 3 0 := ⟨_, _, Try.underlying62, rfl, rfl, rfl⟩
instance : FldIs Try.prog 62 1 59 1 := ⟨_, _, Try.underlying62, rfl, rfl, rfl⟩
instance : FldIs Try.prog 62 2 60 2 := ⟨_, _, Try.underlying62, rfl, rfl, rfl⟩
instance : SzIs Try.prog 62 3 := ⟨by kernel_rfl⟩
instance : ByIs Try.prog 62 24 := ⟨by kernel_rfl⟩
instance : BuIs Try.prog 62 [.int .i64 0, .map none, .map none] [(0, 1), (1, 1), (2, 1)] := ⟨fun _ => by kernel_rfl⟩
instance : ZcIs Try.prog 62 [.int .i64 0, .map none, .map none] := ⟨by kernel_rfl⟩
instance : UIs Try.prog 63 (.func #[20, 64] #[] false) := ⟨Try.underlying63⟩
instance : ScIs Try.prog 63 := ⟨_, Try.underlying63, rfl⟩
instance : SzIs Try.prog 63 1 := ⟨by kernel_rfl⟩
instance : ByIs Try.prog 63 8 := ⟨by kernel_rfl⟩
instance : ZcIs Try.prog 63 [.nilFunc] := ⟨by kernel_rfl⟩
instance : UIs Try.prog 64 (.func #[3, 3] #[4] false) := ⟨Try.underlying64⟩
instance : ScIs Try.prog 64 := ⟨_, Try.underlying64, rfl⟩
instance : SzIs Try.prog 64 1 := ⟨by kernel_rfl⟩
instance : ByIs Try.prog 64 8 := ⟨by kernel_rfl⟩
instance : ZcIs Try.prog 64 [.nilFunc] := ⟨by kernel_rfl⟩
instance : UIs Try.prog 65 (.struct #[{ name := "M", type := 31, offset := 0, embedded := false, tag := "", pkgPath := "", byteOffset := 0 }, { name := "Verdict", type := 3, offset := 7, embedded := false, tag := "", pkgPath := "", byteOffset := 80 }]) := ⟨Try.underlying65⟩
instance : AgIs Try.prog 65 := ⟨_, Try.underlying65, rfl⟩
instance : FldIs Try.prog 65 0 31 0 := ⟨_, _, Try.underlying65, rfl, rfl, rfl⟩
instance : FldIs Try.prog 65 1 3 7 := ⟨_, _, Try.underlying65, rfl, rfl, rfl⟩
instance : SzIs Try.prog 65 8 := ⟨by kernel_rfl⟩
instance : ByIs Try.prog 65 88 := ⟨by kernel_rfl⟩
instance : BuIs Try.prog 65 [.int .i64 0, .int .i64 0, strV [], .int .i64 0, .int .i64 0, strV [], strV [], .int .i64 0] [(0, 7), (7, 1)] := ⟨fun _ => by kernel_rfl⟩
instance : ZcIs Try.prog 65 [.int .i64 0, .int .i64 0, strV [], .int .i64 0, .int .i64 0, strV [], strV [], .int .i64 0] := ⟨by kernel_rfl⟩
instance : UIs Try.prog 66 (.struct #[{ name := "M", type := 31, offset := 0, embedded := false, tag := "", pkgPath := "", byteOffset := 0 }, { name := "Verdict", type := 3, offset := 7, embedded := false, tag := "", pkgPath := "", byteOffset := 80 }]) := ⟨Try.underlying66⟩
instance : AgIs Try.prog 66 := ⟨_, Try.underlying66, rfl⟩
instance : FldIs Try.prog 66 0 31 0 := ⟨_, _, Try.underlying66, rfl, rfl, rfl⟩
instance : FldIs Try.prog 66 1 3 7 := ⟨_, _, Try.underlying66, rfl, rfl, rfl⟩
instance : SzIs Try.prog 66 8 := ⟨by kernel_rfl⟩
instance : ByIs Try.prog 66 88 := ⟨by kernel_rfl⟩
instance : BuIs Try.prog 66 [.int .i64 0, .int .i64 0, strV [], .int .i64 0, .int .i64 0, strV [], strV [], .int .i64 0] [(0, 7), (7, 1)] := ⟨fun _ => by kernel_rfl⟩
instance : ZcIs Try.prog 66 [.int .i64 0, .int .i64 0, strV [], .int .i64 0, .int .i64 0, strV [], strV [], .int .i64 0] := ⟨by kernel_rfl⟩
instance : UIs Try.prog 67 (.struct #[{ name := "token", type := 9, offset := 0, embedded := false, tag := "", pkgPath := "remit/rail", byteOffset := 0 }, { name := "kind", type := 3, offset := 1, embedded := false, tag := "", pkgPath := "remit/rail", byteOffset := 16 }]) := ⟨Try.underlying67⟩
instance : AgIs Try.prog 67 := ⟨_, Try.underlying67, rfl⟩
instance : FldIs Try.prog 67 0 9 0 := ⟨_, _, Try.underlying67, rfl, rfl, rfl⟩
instance : FldIs Try.prog 67 1 3 1 := ⟨_, _, Try.underlying67, rfl, rfl, rfl⟩
instance : SzIs Try.prog 67 2 := ⟨by kernel_rfl⟩
instance : ByIs Try.prog 67 24 := ⟨by kernel_rfl⟩
instance : BuIs Try.prog 67 [strV [], .int .i64 0] [(0, 1), (1, 1)] := ⟨fun _ => by kernel_rfl⟩
instance : ZcIs Try.prog 67 [strV [], .int .i64 0] := ⟨by kernel_rfl⟩
instance : UIs Try.prog 68 (.struct #[{ name := "token", type := 9, offset := 0, embedded := false, tag := "", pkgPath := "remit/rail", byteOffset := 0 }, { name := "kind", type := 3, offset := 1, embedded := false, tag := "", pkgPath := "remit/rail", byteOffset := 16 }]) := ⟨Try.underlying68⟩
instance : AgIs Try.prog 68 := ⟨_, Try.underlying68, rfl⟩
instance : FldIs Try.prog 68 0 9 0 := ⟨_, _, Try.underlying68, rfl, rfl, rfl⟩
instance : FldIs Try.prog 68 1 3 1 := ⟨_, _, Try.underlying68, rfl, rfl, rfl⟩
instance : SzIs Try.prog 68 2 := ⟨by kernel_rfl⟩
instance : ByIs Try.prog 68 24 := ⟨by kernel_rfl⟩
instance : BuIs Try.prog 68 [strV [], .int .i64 0] [(0, 1), (1, 1)] := ⟨fun _ => by kernel_rfl⟩
instance : ZcIs Try.prog 68 [strV [], .int .i64 0] := ⟨by kernel_rfl⟩
instance : UIs Try.prog 69 (.func #[24, 31, 3] #[3] false) := ⟨Try.underlying69⟩
instance : ScIs Try.prog 69 := ⟨_, Try.underlying69, rfl⟩
instance : SzIs Try.prog 69 1 := ⟨by kernel_rfl⟩
instance : ByIs Try.prog 69 8 := ⟨by kernel_rfl⟩
instance : ZcIs Try.prog 69 [.nilFunc] := ⟨by kernel_rfl⟩
instance : UIs Try.prog 70 (.func #[24, 31, 3] #[3] false) := ⟨Try.underlying70⟩
instance : ScIs Try.prog 70 := ⟨_, Try.underlying70, rfl⟩
instance : SzIs Try.prog 70 1 := ⟨by kernel_rfl⟩
instance : ByIs Try.prog 70 8 := ⟨by kernel_rfl⟩
instance : ZcIs Try.prog 70 [.nilFunc] := ⟨by kernel_rfl⟩
instance : UIs Try.prog 71 (.array 4 70) := ⟨Try.underlying71⟩
instance : AgIs Try.prog 71 := ⟨_, Try.underlying71, rfl⟩
instance : SzIs Try.prog 71 4 := ⟨by kernel_rfl⟩
instance : ByIs Try.prog 71 32 := ⟨by kernel_rfl⟩
instance : ZcIs Try.prog 71 [.nilFunc, .nilFunc, .nilFunc, .nilFunc] := ⟨by kernel_rfl⟩
instance : UIs Try.prog 72 (.func #[] #[71] false) := ⟨Try.underlying72⟩
instance : ScIs Try.prog 72 := ⟨_, Try.underlying72, rfl⟩
instance : SzIs Try.prog 72 1 := ⟨by kernel_rfl⟩
instance : ByIs Try.prog 72 8 := ⟨by kernel_rfl⟩
instance : ZcIs Try.prog 72 [.nilFunc] := ⟨by kernel_rfl⟩
instance : UIs Try.prog 73 (.func #[] #[52] false) := ⟨Try.underlying73⟩
instance : ScIs Try.prog 73 := ⟨_, Try.underlying73, rfl⟩
instance : SzIs Try.prog 73 1 := ⟨by kernel_rfl⟩
instance : ByIs Try.prog 73 8 := ⟨by kernel_rfl⟩
instance : ZcIs Try.prog 73 [.nilFunc] := ⟨by kernel_rfl⟩
instance : UIs Try.prog 74 (.func #[3, 3] #[] false) := ⟨Try.underlying74⟩
instance : ScIs Try.prog 74 := ⟨_, Try.underlying74, rfl⟩
instance : SzIs Try.prog 74 1 := ⟨by kernel_rfl⟩
instance : ByIs Try.prog 74 8 := ⟨by kernel_rfl⟩
instance : ZcIs Try.prog 74 [.nilFunc] := ⟨by kernel_rfl⟩
instance : UIs Try.prog 75 (.func #[109] #[] false) := ⟨Try.underlying75⟩
instance : ScIs Try.prog 75 := ⟨_, Try.underlying75, rfl⟩
instance : SzIs Try.prog 75 1 := ⟨by kernel_rfl⟩
instance : ByIs Try.prog 75 8 := ⟨by kernel_rfl⟩
instance : ZcIs Try.prog 75 [.nilFunc] := ⟨by kernel_rfl⟩
instance : UIs Try.prog 76 (.func #[109] #[] false) := ⟨Try.underlying76⟩
instance : ScIs Try.prog 76 := ⟨_, Try.underlying76, rfl⟩
instance : SzIs Try.prog 76 1 := ⟨by kernel_rfl⟩
instance : ByIs Try.prog 76 8 := ⟨by kernel_rfl⟩
instance : ZcIs Try.prog 76 [.nilFunc] := ⟨by kernel_rfl⟩
instance : UIs Try.prog 77 (.func #[] #[76] false) := ⟨Try.underlying77⟩
instance : ScIs Try.prog 77 := ⟨_, Try.underlying77, rfl⟩
instance : SzIs Try.prog 77 1 := ⟨by kernel_rfl⟩
instance : ByIs Try.prog 77 8 := ⟨by kernel_rfl⟩
instance : ZcIs Try.prog 77 [.nilFunc] := ⟨by kernel_rfl⟩
instance : UIs Try.prog 78 (.struct #[{ name := "Tick", type := 3, offset := 0, embedded := false, tag := "", pkgPath := "", byteOffset := 0 }, { name := "Number", type := 3, offset := 1, embedded := false, tag := "", pkgPath := "", byteOffset := 8 }]) := ⟨Try.underlying78⟩
instance : AgIs Try.prog 78 := ⟨_, Try.underlying78, rfl⟩
instance : FldIs Try.prog 78 0 3 0 := ⟨_, _, Try.underlying78, rfl, rfl, rfl⟩
instance : FldIs Try.prog 78 1 3 1 := ⟨_, _, Try.underlying78, rfl, rfl, rfl⟩
instance : SzIs Try.prog 78 2 := ⟨by kernel_rfl⟩
instance : ByIs Try.prog 78 16 := ⟨by kernel_rfl⟩
instance : BuIs Try.prog 78 [.int .i64 0, .int .i64 0] [(0, 1), (1, 1)] := ⟨fun _ => by kernel_rfl⟩
instance : ZcIs Try.prog 78 [.int .i64 0, .int .i64 0] := ⟨by kernel_rfl⟩
instance : UIs Try.prog 79 (.struct #[{ name := "Tick", type := 3, offset := 0, embedded := false, tag := "", pkgPath := "", byteOffset := 0 }, { name := "Number", type := 3, offset := 1, embedded := false, tag := "", pkgPath := "", byteOffset := 8 }]) := ⟨Try.underlying79⟩
instance : AgIs Try.prog 79 := ⟨_, Try.underlying79, rfl⟩
instance : FldIs Try.prog 79 0 3 0 := ⟨_, _, Try.underlying79, rfl, rfl, rfl⟩
instance : FldIs Try.prog 79 1 3 1 := ⟨_, _, Try.underlying79, rfl, rfl, rfl⟩
instance : SzIs Try.prog 79 2 := ⟨by kernel_rfl⟩
instance : ByIs Try.prog 79 16 := ⟨by kernel_rfl⟩
instance : BuIs Try.prog 79 [.int .i64 0, .int .i64 0] [(0, 1), (1, 1)] := ⟨fun _ => by kernel_rfl⟩
instance : ZcIs Try.prog 79 [.int .i64 0, .int .i64 0] := ⟨by kernel_rfl⟩
instance : UIs Try.prog 81 (.func #[] #[79, 4] false) := ⟨Try.underlying81⟩
instance : ScIs Try.prog 81 := ⟨_, Try.underlying81, rfl⟩
instance : SzIs Try.prog 81 1 := ⟨by kernel_rfl⟩
instance : ByIs Try.prog 81 8 := ⟨by kernel_rfl⟩
instance : ZcIs Try.prog 81 [.nilFunc] := ⟨by kernel_rfl⟩
instance : UIs Try.prog 82 (.func #[] #[3] false) := ⟨Try.underlying82⟩
instance : ScIs Try.prog 82 := ⟨_, Try.underlying82, rfl⟩
instance : SzIs Try.prog 82 1 := ⟨by kernel_rfl⟩
instance : ByIs Try.prog 82 8 := ⟨by kernel_rfl⟩
instance : ZcIs Try.prog 82 [.nilFunc] := ⟨by kernel_rfl⟩
instance : UIs Try.prog 83 (.struct #[{ name := "Kind", type := 3, offset := 0, embedded := false, tag := "", pkgPath := "", byteOffset := 0 }, { name := "Number", type := 3, offset := 1, embedded := false, tag := "", pkgPath := "", byteOffset := 8 }, { name := "Tick", type := 3, offset := 2, embedded := false, tag := "", pkgPath := "", byteOffset := 16 }]) := ⟨Try.underlying83⟩
instance : AgIs Try.prog 83 := ⟨_, Try.underlying83, rfl⟩
instance : FldIs Try.prog 83 0 3 0 := ⟨_, _, Try.underlying83, rfl, rfl, rfl⟩
instance : FldIs Try.prog 83 1 3 1 := ⟨_, _, Try.underlying83, rfl, rfl, rfl⟩
instance : FldIs Try.prog 83 2 3 2 := ⟨_, _, Try.underlying83, rfl, rfl, rfl⟩
instance : SzIs Try.prog 83 3 := ⟨by kernel_rfl⟩
instance : ByIs Try.prog 83 24 := ⟨by kernel_rfl⟩
instance : BuIs Try.prog 83 [.int .i64 0, .int .i64 0, .int .i64 0] [(0, 1), (1, 1), (2, 1)] := ⟨fun _ => by kernel_rfl⟩
instance : ZcIs Try.prog 83 [.int .i64 0, .int .i64 0, .int .i64 0] := ⟨by kernel_rfl⟩
instance : UIs Try.prog 84 (.struct #[{ name := "Kind", type := 3, offset := 0, embedded := false, tag := "", pkgPath := "", byteOffset := 0 }, { name := "Number", type := 3, offset := 1, embedded := false, tag := "", pkgPath := "", byteOffset := 8 }, { name := "Tick", type := 3, offset := 2, embedded := false, tag := "", pkgPath := "", byteOffset := 16 }]) := ⟨Try.underlying84⟩
instance : AgIs Try.prog 84 := ⟨_, Try.underlying84, rfl⟩
instance : FldIs Try.prog 84 0 3 0 := ⟨_, _, Try.underlying84, rfl, rfl, rfl⟩
instance : FldIs Try.prog 84 1 3 1 := ⟨_, _, Try.underlying84, rfl, rfl, rfl⟩
instance : FldIs Try.prog 84 2 3 2 := ⟨_, _, Try.underlying84, rfl, rfl, rfl⟩
instance : SzIs Try.prog 84 3 := ⟨by kernel_rfl⟩
instance : ByIs Try.prog 84 24 := ⟨by kernel_rfl⟩
instance : BuIs Try.prog 84 [.int .i64 0, .int .i64 0, .int .i64 0] [(0, 1), (1, 1), (2, 1)] := ⟨fun _ => by kernel_rfl⟩
instance : ZcIs Try.prog 84 [.int .i64 0, .int .i64 0, .int .i64 0] := ⟨by kernel_rfl⟩
instance : UIs Try.prog 85 (.interface #[("remit/timers.drop", 1), ("remit/timers.first", 90), ("remit/timers.list", 107), ("remit/timers.put", 106), ("remit/timers.size", 82), ("remit/timers.take", 106)]) := ⟨Try.underlying85⟩
instance : ScIs Try.prog 85 := ⟨_, Try.underlying85, rfl⟩
instance : SzIs Try.prog 85 1 := ⟨by kernel_rfl⟩
instance : ByIs Try.prog 85 16 := ⟨by kernel_rfl⟩
instance : ZcIs Try.prog 85 [.nilIface] := ⟨by kernel_rfl⟩
instance : UIs Try.prog 86 (.interface #[("remit/timers.drop", 1), ("remit/timers.first", 90), ("remit/timers.list", 107), ("remit/timers.put", 106), ("remit/timers.size", 82), ("remit/timers.take", 106)]) := ⟨Try.underlying86⟩
instance : ScIs Try.prog 86 := ⟨_, Try.underlying86, rfl⟩
instance : SzIs Try.prog 86 1 := ⟨by kernel_rfl⟩
instance : ByIs Try.prog 86 16 := ⟨by kernel_rfl⟩
instance : ZcIs Try.prog 86 [.nilIface] := ⟨by kernel_rfl⟩
instance : UIs Try.prog 87 (.map 3 3) := ⟨Try.underlying87⟩
instance : ScIs Try.prog 87 := ⟨_, Try.underlying87, rfl⟩
instance : SzIs Try.prog 87 1 := ⟨by kernel_rfl⟩
instance : ByIs Try.prog 87 8 := ⟨by kernel_rfl⟩
instance : ZcIs Try.prog 87 [.map none] := ⟨by kernel_rfl⟩
instance : UIs Try.prog 88 (.struct #[{ name := "due", type := 86, offset := 0, embedded := false, tag := "", pkgPath := "remit/timers", byteOffset := 0 }, { name := "when", type := 87, offset := 1, embedded := false, tag := "", pkgPath := "remit/timers", byteOffset := 16 }]) := ⟨Try.underlying88⟩
instance : AgIs Try.prog 88 := ⟨_, Try.underlying88, rfl⟩
instance : FldIs Try.prog 88 0 86 0 := ⟨_, _, Try.underlying88, rfl, rfl, rfl⟩
instance : FldIs Try.prog 88 1 87 1 := ⟨_, _, Try.underlying88, rfl, rfl, rfl⟩
instance : SzIs Try.prog 88 2 := ⟨by kernel_rfl⟩
instance : ByIs Try.prog 88 24 := ⟨by kernel_rfl⟩
instance : BuIs Try.prog 88 [.nilIface, .map none] [(0, 1), (1, 1)] := ⟨fun _ => by kernel_rfl⟩
instance : ZcIs Try.prog 88 [.nilIface, .map none] := ⟨by kernel_rfl⟩
instance : UIs Try.prog 89 (.struct #[{ name := "due", type := 86, offset := 0, embedded := false, tag := "", pkgPath := "remit/timers", byteOffset := 0 }, { name := "when", type := 87, offset := 1, embedded := false, tag := "", pkgPath := "remit/timers", byteOffset := 16 }]) := ⟨Try.underlying89⟩
instance : AgIs Try.prog 89 := ⟨_, Try.underlying89, rfl⟩
instance : FldIs Try.prog 89 0 86 0 := ⟨_, _, Try.underlying89, rfl, rfl, rfl⟩
instance : FldIs Try.prog 89 1 87 1 := ⟨_, _, Try.underlying89, rfl, rfl, rfl⟩
instance : SzIs Try.prog 89 2 := ⟨by kernel_rfl⟩
instance : ByIs Try.prog 89 24 := ⟨by kernel_rfl⟩
instance : BuIs Try.prog 89 [.nilIface, .map none] [(0, 1), (1, 1)] := ⟨fun _ => by kernel_rfl⟩
instance : ZcIs Try.prog 89 [.nilIface, .map none] := ⟨by kernel_rfl⟩
instance : UIs Try.prog 90 (.func #[] #[79] false) := ⟨Try.underlying90⟩
instance : ScIs Try.prog 90 := ⟨_, Try.underlying90, rfl⟩
instance : SzIs Try.prog 90 1 := ⟨by kernel_rfl⟩
instance : ByIs Try.prog 90 8 := ⟨by kernel_rfl⟩
instance : ZcIs Try.prog 90 [.nilFunc] := ⟨by kernel_rfl⟩
instance : UIs Try.prog 91 (.unsafePointer) := ⟨Try.underlying91⟩
instance : ScIs Try.prog 91 := ⟨_, Try.underlying91, rfl⟩
instance : SzIs Try.prog 91 1 := ⟨by kernel_rfl⟩
instance : ByIs Try.prog 91 8 := ⟨by kernel_rfl⟩
instance : ZcIs Try.prog 91 [.pointer none] := ⟨by kernel_rfl⟩
instance : UIs Try.prog 92 (.int .u64) := ⟨Try.underlying92⟩
instance : ScIs Try.prog 92 := ⟨_, Try.underlying92, rfl⟩
instance : SzIs Try.prog 92 1 := ⟨by kernel_rfl⟩
instance : ByIs Try.prog 92 8 := ⟨by kernel_rfl⟩
instance : ZcIs Try.prog 92 [.int .u64 0] := ⟨by kernel_rfl⟩
instance : UIs Try.prog 93 (.struct #[{ name := "typ_", type := 17, offset := 0, embedded := false, tag := "", pkgPath := "internal/reflectlite", byteOffset := 0 }, { name := "ptr", type := 91, offset := 1, embedded := false, tag := "", pkgPath := "internal/reflectlite", byteOffset := 8 }, { name := "flag", type := 92, offset := 2, embedded := true, tag := "", pkgPath := "internal/reflectlite", byteOffset := 16 }]) := ⟨Try.underlying93⟩
instance : AgIs Try.prog 93 := ⟨_, Try.underlying93, rfl⟩
instance : FldIs Try.prog 93 0 17 0 := ⟨_, _, Try.underlying93, rfl, rfl, rfl⟩
instance : FldIs Try.prog 93 1 91 1 := ⟨_, _, Try.underlying93, rfl, rfl, rfl⟩
instance : FldIs Try.prog 93 2 92 2 := ⟨_, _, Try.underlying93, rfl, rfl, rfl⟩
instance : SzIs Try.prog 93 3 := ⟨by kernel_rfl⟩
instance : ByIs Try.prog 93 24 := ⟨by kernel_rfl⟩
instance : BuIs Try.prog 93 [.pointer none, .pointer none, .int .u64 0] [(0, 1), (1, 1), (2, 1)] := ⟨fun _ => by kernel_rfl⟩
instance : ZcIs Try.prog 93 [.pointer none, .pointer none, .int .u64 0] := ⟨by kernel_rfl⟩
instance : UIs Try.prog 94 (.struct #[{ name := "typ_", type := 17, offset := 0, embedded := false, tag := "", pkgPath := "internal/reflectlite", byteOffset := 0 }, { name := "ptr", type := 91, offset := 1, embedded := false, tag := "", pkgPath := "internal/reflectlite", byteOffset := 8 }, { name := "flag", type := 92, offset := 2, embedded := true, tag := "", pkgPath := "internal/reflectlite", byteOffset := 16 }]) := ⟨Try.underlying94⟩
instance : AgIs Try.prog 94 := ⟨_, Try.underlying94, rfl⟩
instance : FldIs Try.prog 94 0 17 0 := ⟨_, _, Try.underlying94, rfl, rfl, rfl⟩
instance : FldIs Try.prog 94 1 91 1 := ⟨_, _, Try.underlying94, rfl, rfl, rfl⟩
instance : FldIs Try.prog 94 2 92 2 := ⟨_, _, Try.underlying94, rfl, rfl, rfl⟩
instance : SzIs Try.prog 94 3 := ⟨by kernel_rfl⟩
instance : ByIs Try.prog 94 24 := ⟨by kernel_rfl⟩
instance : BuIs Try.prog 94 [.pointer none, .pointer none, .int .u64 0] [(0, 1), (1, 1), (2, 1)] := ⟨fun _ => by kernel_rfl⟩
instance : ZcIs Try.prog 94 [.pointer none, .pointer none, .int .u64 0] := ⟨by kernel_rfl⟩
instance : UIs Try.prog 95 (.func #[20] #[94] false) := ⟨Try.underlying95⟩
instance : ScIs Try.prog 95 := ⟨_, Try.underlying95, rfl⟩
instance : SzIs Try.prog 95 1 := ⟨by kernel_rfl⟩
instance : ByIs Try.prog 95 8 := ⟨by kernel_rfl⟩
instance : ZcIs Try.prog 95 [.nilFunc] := ⟨by kernel_rfl⟩
instance : UIs Try.prog 96 (.func #[20] #[74] false) := ⟨Try.underlying96⟩
instance : ScIs Try.prog 96 := ⟨_, Try.underlying96, rfl⟩
instance : SzIs Try.prog 96 1 := ⟨by kernel_rfl⟩
instance : ByIs Try.prog 96 8 := ⟨by kernel_rfl⟩
instance : ZcIs Try.prog 96 [.nilFunc] := ⟨by kernel_rfl⟩
instance : UIs Try.prog 97 (.func #[98] #[3] false) := ⟨Try.underlying97⟩
instance : ScIs Try.prog 97 := ⟨_, Try.underlying97, rfl⟩
instance : SzIs Try.prog 97 1 := ⟨by kernel_rfl⟩
instance : ByIs Try.prog 97 8 := ⟨by kernel_rfl⟩
instance : ZcIs Try.prog 97 [.nilFunc] := ⟨by kernel_rfl⟩
instance : UIs Try.prog 98 (.int .u64) := ⟨Try.underlying98⟩
instance : ScIs Try.prog 98 := ⟨_, Try.underlying98, rfl⟩
instance : SzIs Try.prog 98 1 := ⟨by kernel_rfl⟩
instance : ByIs Try.prog 98 8 := ⟨by kernel_rfl⟩
instance : ZcIs Try.prog 98 [.int .u64 0] := ⟨by kernel_rfl⟩
instance : UIs Try.prog 99 (.func #[101, 3, 3, 3] #[] false) := ⟨Try.underlying99⟩
instance : ScIs Try.prog 99 := ⟨_, Try.underlying99, rfl⟩
instance : SzIs Try.prog 99 1 := ⟨by kernel_rfl⟩
instance : ByIs Try.prog 99 8 := ⟨by kernel_rfl⟩
instance : ZcIs Try.prog 99 [.nilFunc] := ⟨by kernel_rfl⟩
instance : UIs Try.prog 100 (.struct #[{ name := "Less", type := 64, offset := 0, embedded := false, tag := "", pkgPath := "", byteOffset := 0 }, { name := "Swap", type := 74, offset := 1, embedded := false, tag := "", pkgPath := "", byteOffset := 8 }]) := ⟨Try.underlying100⟩
instance : AgIs Try.prog 100 := ⟨_, Try.underlying100, rfl⟩
instance : FldIs Try.prog 100 0 64 0 := ⟨_, _, Try.underlying100, rfl, rfl, rfl⟩
instance : FldIs Try.prog 100 1 74 1 := ⟨_, _, Try.underlying100, rfl, rfl, rfl⟩
instance : SzIs Try.prog 100 2 := ⟨by kernel_rfl⟩
instance : ByIs Try.prog 100 16 := ⟨by kernel_rfl⟩
instance : BuIs Try.prog 100 [.nilFunc, .nilFunc] [(0, 1), (1, 1)] := ⟨fun _ => by kernel_rfl⟩
instance : ZcIs Try.prog 100 [.nilFunc, .nilFunc] := ⟨by kernel_rfl⟩
instance : UIs Try.prog 101 (.struct #[{ name := "Less", type := 64, offset := 0, embedded := false, tag := "", pkgPath := "", byteOffset := 0 }, { name := "Swap", type := 74, offset := 1, embedded := false, tag := "", pkgPath := "", byteOffset := 8 }]) := ⟨Try.underlying101⟩
instance : AgIs Try.prog 101 := ⟨_, Try.underlying101, rfl⟩
instance : FldIs Try.prog 101 0 64 0 := ⟨_, _, Try.underlying101, rfl, rfl, rfl⟩
instance : FldIs Try.prog 101 1 74 1 := ⟨_, _, Try.underlying101, rfl, rfl, rfl⟩
instance : SzIs Try.prog 101 2 := ⟨by kernel_rfl⟩
instance : ByIs Try.prog 101 16 := ⟨by kernel_rfl⟩
instance : BuIs Try.prog 101 [.nilFunc, .nilFunc] [(0, 1), (1, 1)] := ⟨fun _ => by kernel_rfl⟩
instance : ZcIs Try.prog 101 [.nilFunc, .nilFunc] := ⟨by kernel_rfl⟩
instance : UIs Try.prog 102 (.func #[31, 3] #[3] false) := ⟨Try.underlying102⟩
instance : ScIs Try.prog 102 := ⟨_, Try.underlying102, rfl⟩
instance : SzIs Try.prog 102 1 := ⟨by kernel_rfl⟩
instance : ByIs Try.prog 102 8 := ⟨by kernel_rfl⟩
instance : ZcIs Try.prog 102 [.nilFunc] := ⟨by kernel_rfl⟩
instance : UIs Try.prog 103 (.pointer 105) := ⟨Try.underlying103⟩
instance : ScIs Try.prog 103 := ⟨_, Try.underlying103, rfl⟩
instance : SzIs Try.prog 103 1 := ⟨by kernel_rfl⟩
instance : ByIs Try.prog 103 8 := ⟨by kernel_rfl⟩
instance : ZcIs Try.prog 103 [.pointer none] := ⟨by kernel_rfl⟩
instance : UIs Try.prog 104 (.struct #[{ name := "all", type := 54, offset := 0, embedded := false, tag := "", pkgPath := "remit/timers", byteOffset := 0 }]) := ⟨Try.underlying104⟩
instance : AgIs Try.prog 104 := ⟨_, Try.underlying104, rfl⟩
instance : FldIs Try.prog 104 0 54 0 := ⟨_, _, Try.underlying104, rfl, rfl, rfl⟩
instance : SzIs Try.prog 104 1 := ⟨by kernel_rfl⟩
instance : ByIs Try.prog 104 24 := ⟨by kernel_rfl⟩
instance : BuIs Try.prog 104 [.slice none 0 0] [(0, 1)] := ⟨fun _ => by kernel_rfl⟩
instance : ZcIs Try.prog 104 [.slice none 0 0] := ⟨by kernel_rfl⟩
instance : UIs Try.prog 105 (.struct #[{ name := "all", type := 54, offset := 0, embedded := false, tag := "", pkgPath := "remit/timers", byteOffset := 0 }]) := ⟨Try.underlying105⟩
instance : AgIs Try.prog 105 := ⟨_, Try.underlying105, rfl⟩
instance : FldIs Try.prog 105 0 54 0 := ⟨_, _, Try.underlying105, rfl, rfl, rfl⟩
instance : SzIs Try.prog 105 1 := ⟨by kernel_rfl⟩
instance : ByIs Try.prog 105 24 := ⟨by kernel_rfl⟩
instance : BuIs Try.prog 105 [.slice none 0 0] [(0, 1)] := ⟨fun _ => by kernel_rfl⟩
instance : ZcIs Try.prog 105 [.slice none 0 0] := ⟨by kernel_rfl⟩
instance : UIs Try.prog 106 (.func #[79] #[] false) := ⟨Try.underlying106⟩
instance : ScIs Try.prog 106 := ⟨_, Try.underlying106, rfl⟩
instance : SzIs Try.prog 106 1 := ⟨by kernel_rfl⟩
instance : ByIs Try.prog 106 8 := ⟨by kernel_rfl⟩
instance : ZcIs Try.prog 106 [.nilFunc] := ⟨by kernel_rfl⟩
instance : UIs Try.prog 107 (.func #[] #[54] false) := ⟨Try.underlying107⟩
instance : ScIs Try.prog 107 := ⟨_, Try.underlying107, rfl⟩
instance : SzIs Try.prog 107 1 := ⟨by kernel_rfl⟩
instance : ByIs Try.prog 107 8 := ⟨by kernel_rfl⟩
instance : ZcIs Try.prog 107 [.nilFunc] := ⟨by kernel_rfl⟩
instance : UIs Try.prog 108 (.func #[79, 79] #[4] false) := ⟨Try.underlying108⟩
instance : ScIs Try.prog 108 := ⟨_, Try.underlying108, rfl⟩
instance : SzIs Try.prog 108 1 := ⟨by kernel_rfl⟩
instance : ByIs Try.prog 108 8 := ⟨by kernel_rfl⟩
instance : ZcIs Try.prog 108 [.nilFunc] := ⟨by kernel_rfl⟩
instance : UIs Try.prog 109 (.func #[79] #[4] false) := ⟨Try.underlying109⟩
instance : ScIs Try.prog 109 := ⟨_, Try.underlying109, rfl⟩
instance : SzIs Try.prog 109 1 := ⟨by kernel_rfl⟩
instance : ByIs Try.prog 109 8 := ⟨by kernel_rfl⟩
instance : ZcIs Try.prog 109 [.nilFunc] := ⟨by kernel_rfl⟩
instance : UIs Try.prog 111 (.struct #[{ name := "Type", type := 17, offset := 0, embedded := true, tag := "", pkgPath := "", byteOffset := 0 }]) := ⟨Try.underlying111⟩
instance : AgIs Try.prog 111 := ⟨_, Try.underlying111, rfl⟩
instance : FldIs Try.prog 111 0 17 0 := ⟨_, _, Try.underlying111, rfl, rfl, rfl⟩
instance : SzIs Try.prog 111 1 := ⟨by kernel_rfl⟩
instance : ByIs Try.prog 111 8 := ⟨by kernel_rfl⟩
instance : BuIs Try.prog 111 [.pointer none] [(0, 1)] := ⟨fun _ => by kernel_rfl⟩
instance : ZcIs Try.prog 111 [.pointer none] := ⟨by kernel_rfl⟩
instance : UIs Try.prog 112 (.struct #[{ name := "Type", type := 17, offset := 0, embedded := true, tag := "", pkgPath := "", byteOffset := 0 }]) := ⟨Try.underlying112⟩
instance : AgIs Try.prog 112 := ⟨_, Try.underlying112, rfl⟩
instance : FldIs Try.prog 112 0 17 0 := ⟨_, _, Try.underlying112, rfl, rfl, rfl⟩
instance : SzIs Try.prog 112 1 := ⟨by kernel_rfl⟩
instance : ByIs Try.prog 112 8 := ⟨by kernel_rfl⟩
instance : BuIs Try.prog 112 [.pointer none] [(0, 1)] := ⟨fun _ => by kernel_rfl⟩
instance : ZcIs Try.prog 112 [.pointer none] := ⟨by kernel_rfl⟩
instance : UIs Try.prog 113 (.pointer 151) := ⟨Try.underlying113⟩
instance : ScIs Try.prog 113 := ⟨_, Try.underlying113, rfl⟩
instance : SzIs Try.prog 113 1 := ⟨by kernel_rfl⟩
instance : ByIs Try.prog 113 8 := ⟨by kernel_rfl⟩
instance : ZcIs Try.prog 113 [.pointer none] := ⟨by kernel_rfl⟩
instance : UIs Try.prog 114 (.func #[115] #[3] false) := ⟨Try.underlying114⟩
instance : ScIs Try.prog 114 := ⟨_, Try.underlying114, rfl⟩
instance : SzIs Try.prog 114 1 := ⟨by kernel_rfl⟩
instance : ByIs Try.prog 114 8 := ⟨by kernel_rfl⟩
instance : ZcIs Try.prog 114 [.nilFunc] := ⟨by kernel_rfl⟩
instance : UIs Try.prog 115 (.int .u32) := ⟨Try.underlying115⟩
instance : ScIs Try.prog 115 := ⟨_, Try.underlying115, rfl⟩
instance : SzIs Try.prog 115 1 := ⟨by kernel_rfl⟩
instance : ByIs Try.prog 115 4 := ⟨by kernel_rfl⟩
instance : ZcIs Try.prog 115 [.int .u32 0] := ⟨by kernel_rfl⟩
instance : UIs Try.prog 116 (.func #[117] #[3] false) := ⟨Try.underlying116⟩
instance : ScIs Try.prog 116 := ⟨_, Try.underlying116, rfl⟩
instance : SzIs Try.prog 116 1 := ⟨by kernel_rfl⟩
instance : ByIs Try.prog 116 8 := ⟨by kernel_rfl⟩
instance : ZcIs Try.prog 116 [.nilFunc] := ⟨by kernel_rfl⟩
instance : UIs Try.prog 117 (.int .u64) := ⟨Try.underlying117⟩
instance : ScIs Try.prog 117 := ⟨_, Try.underlying117, rfl⟩
instance : SzIs Try.prog 117 1 := ⟨by kernel_rfl⟩
instance : ByIs Try.prog 117 8 := ⟨by kernel_rfl⟩
instance : ZcIs Try.prog 117 [.int .u64 0] := ⟨by kernel_rfl⟩
instance : UIs Try.prog 118 (.func #[101, 3, 3] #[] false) := ⟨Try.underlying118⟩
instance : ScIs Try.prog 118 := ⟨_, Try.underlying118, rfl⟩
instance : SzIs Try.prog 118 1 := ⟨by kernel_rfl⟩
instance : ByIs Try.prog 118 8 := ⟨by kernel_rfl⟩
instance : ZcIs Try.prog 118 [.nilFunc] := ⟨by kernel_rfl⟩
instance : UIs Try.prog 119 (.int .i64) := ⟨Try.underlying119⟩
instance : ScIs Try.prog 119 := ⟨_, Try.underlying119, rfl⟩
instance : SzIs Try.prog 119 1 := ⟨by kernel_rfl⟩
instance : ByIs Try.prog 119 8 := ⟨by kernel_rfl⟩
instance : ZcIs Try.prog 119 [.int .i64 0] := ⟨by kernel_rfl⟩
instance : UIs Try.prog 121 (.func #[101, 3, 3] #[3, 119] false) := ⟨Try.underlying121⟩
instance : ScIs Try.prog 121 := ⟨_, Try.underlying121, rfl⟩
instance : SzIs Try.prog 121 1 := ⟨by kernel_rfl⟩
instance : ByIs Try.prog 121 8 := ⟨by kernel_rfl⟩
instance : ZcIs Try.prog 121 [.nilFunc] := ⟨by kernel_rfl⟩
instance : UIs Try.prog 122 (.func #[101, 3, 3] #[4] false) := ⟨Try.underlying122⟩
instance : ScIs Try.prog 122 := ⟨_, Try.underlying122, rfl⟩
instance : SzIs Try.prog 122 1 := ⟨by kernel_rfl⟩
instance : ByIs Try.prog 122 8 := ⟨by kernel_rfl⟩
instance : ZcIs Try.prog 122 [.nilFunc] := ⟨by kernel_rfl⟩
instance : UIs Try.prog 123 (.func #[101, 3, 3, 3] #[3] false) := ⟨Try.underlying123⟩
instance : ScIs Try.prog 123 := ⟨_, Try.underlying123, rfl⟩
instance : SzIs Try.prog 123 1 := ⟨by kernel_rfl⟩
instance : ByIs Try.prog 123 8 := ⟨by kernel_rfl⟩
instance : ZcIs Try.prog 123 [.nilFunc] := ⟨by kernel_rfl⟩
instance : UIs Try.prog 124 (.func #[101, 3, 3, 3] #[3, 4] false) := ⟨Try.underlying124⟩
instance : ScIs Try.prog 124 := ⟨_, Try.underlying124, rfl⟩
instance : SzIs Try.prog 124 1 := ⟨by kernel_rfl⟩
instance : ByIs Try.prog 124 8 := ⟨by kernel_rfl⟩
instance : ZcIs Try.prog 124 [.nilFunc] := ⟨by kernel_rfl⟩
instance : UIs Try.prog 125 (.func #[31] #[3] false) := ⟨Try.underlying125⟩
instance : ScIs Try.prog 125 := ⟨_, Try.underlying125, rfl⟩
instance : SzIs Try.prog 125 1 := ⟨by kernel_rfl⟩
instance : ByIs Try.prog 125 8 := ⟨by kernel_rfl⟩
instance : ZcIs Try.prog 125 [.nilFunc] := ⟨by kernel_rfl⟩
instance : UIs Try.prog 126 (.int .u64) := ⟨Try.underlying126⟩
instance : ScIs Try.prog 126 := ⟨_, Try.underlying126, rfl⟩
instance : SzIs Try.prog 126 1 := ⟨by kernel_rfl⟩
instance : ByIs Try.prog 126 8 := ⟨by kernel_rfl⟩
instance : ZcIs Try.prog 126 [.int .u64 0] := ⟨by kernel_rfl⟩
instance : UIs Try.prog 127 (.func #[3] #[98] false) := ⟨Try.underlying127⟩
instance : ScIs Try.prog 127 := ⟨_, Try.underlying127, rfl⟩
instance : SzIs Try.prog 127 1 := ⟨by kernel_rfl⟩
instance : ByIs Try.prog 127 8 := ⟨by kernel_rfl⟩
instance : ZcIs Try.prog 127 [.nilFunc] := ⟨by kernel_rfl⟩
instance : UIs Try.prog 128 (.func #[] #[117] false) := ⟨Try.underlying128⟩
instance : ScIs Try.prog 128 := ⟨_, Try.underlying128, rfl⟩
instance : SzIs Try.prog 128 1 := ⟨by kernel_rfl⟩
instance : ByIs Try.prog 128 8 := ⟨by kernel_rfl⟩
instance : ZcIs Try.prog 128 [.nilFunc] := ⟨by kernel_rfl⟩
instance : UIs Try.prog 129 (.func #[101, 3, 130] #[3] false) := ⟨Try.underlying129⟩
instance : ScIs Try.prog 129 := ⟨_, Try.underlying129, rfl⟩
instance : SzIs Try.prog 129 1 := ⟨by kernel_rfl⟩
instance : ByIs Try.prog 129 8 := ⟨by kernel_rfl⟩
instance : ZcIs Try.prog 129 [.nilFunc] := ⟨by kernel_rfl⟩
instance : UIs Try.prog 130 (.pointer 3) := ⟨Try.underlying130⟩
instance : ScIs Try.prog 130 := ⟨_, Try.underlying130, rfl⟩
instance : SzIs Try.prog 130 1 := ⟨by kernel_rfl⟩
instance : ByIs Try.prog 130 8 := ⟨by kernel_rfl⟩
instance : ZcIs Try.prog 130 [.pointer none] := ⟨by kernel_rfl⟩
instance : UIs Try.prog 131 (.func #[101, 3, 3, 3, 130] #[3] false) := ⟨Try.underlying131⟩
instance : ScIs Try.prog 131 := ⟨_, Try.underlying131, rfl⟩
instance : SzIs Try.prog 131 1 := ⟨by kernel_rfl⟩
instance : ByIs Try.prog 131 8 := ⟨by kernel_rfl⟩
instance : ZcIs Try.prog 131 [.nilFunc] := ⟨by kernel_rfl⟩
instance : UIs Try.prog 132 (.pointer 126) := ⟨Try.underlying132⟩
instance : ScIs Try.prog 132 := ⟨_, Try.underlying132, rfl⟩
instance : SzIs Try.prog 132 1 := ⟨by kernel_rfl⟩
instance : ByIs Try.prog 132 8 := ⟨by kernel_rfl⟩
instance : ZcIs Try.prog 132 [.pointer none] := ⟨by kernel_rfl⟩
instance : UIs Try.prog 134 (.func #[101, 3, 3, 130] #[3, 3] false) := ⟨Try.underlying134⟩
instance : ScIs Try.prog 134 := ⟨_, Try.underlying134, rfl⟩
instance : SzIs Try.prog 134 1 := ⟨by kernel_rfl⟩
instance : ByIs Try.prog 134 8 := ⟨by kernel_rfl⟩
instance : ZcIs Try.prog 134 [.nilFunc] := ⟨by kernel_rfl⟩
instance : UIs Try.prog 135 (.func #[] #[9] false) := ⟨Try.underlying135⟩
instance : ScIs Try.prog 135 := ⟨_, Try.underlying135, rfl⟩
instance : SzIs Try.prog 135 1 := ⟨by kernel_rfl⟩
instance : ByIs Try.prog 135 8 := ⟨by kernel_rfl⟩
instance : ZcIs Try.prog 135 [.nilFunc] := ⟨by kernel_rfl⟩
instance : UIs Try.prog 136 (.struct #[{ name := "_interface", type := 17, offset := 0, embedded := false, tag := "", pkgPath := "runtime", byteOffset := 0 }, { name := "concrete", type := 17, offset := 1, embedded := false, tag := "", pkgPath := "runtime", byteOffset := 8 }, { name := "asserted", type := 17, offset := 2, embedded := false, tag := "", pkgPath := "runtime", byteOffset := 16 }, { name := "missingMethod", type := 9, offset := 3, embedded := false, tag := "", pkgPath := "runtime", byteOffset := 24 }]) := ⟨Try.underlying136⟩
instance : AgIs Try.prog 136 := ⟨_, Try.underlying136, rfl⟩
instance : FldIs Try.prog 136 0 17 0 := ⟨_, _, Try.underlying136, rfl, rfl, rfl⟩
instance : FldIs Try.prog 136 1 17 1 := ⟨_, _, Try.underlying136, rfl, rfl, rfl⟩
instance : FldIs Try.prog 136 2 17 2 := ⟨_, _, Try.underlying136, rfl, rfl, rfl⟩
instance : FldIs Try.prog 136 3 9 3 := ⟨_, _, Try.underlying136, rfl, rfl, rfl⟩
instance : SzIs Try.prog 136 4 := ⟨by kernel_rfl⟩
instance : ByIs Try.prog 136 40 := ⟨by kernel_rfl⟩
instance : BuIs Try.prog 136 [.pointer none, .pointer none, .pointer none, strV []] [(0, 1), (1, 1), (2, 1), (3, 1)] := ⟨fun _ => by kernel_rfl⟩
instance : ZcIs Try.prog 136 [.pointer none, .pointer none, .pointer none, strV []] := ⟨by kernel_rfl⟩
instance : UIs Try.prog 137 (.struct #[{ name := "_interface", type := 17, offset := 0, embedded := false, tag := "", pkgPath := "runtime", byteOffset := 0 }, { name := "concrete", type := 17, offset := 1, embedded := false, tag := "", pkgPath := "runtime", byteOffset := 8 }, { name := "asserted", type := 17, offset := 2, embedded := false, tag := "", pkgPath := "runtime", byteOffset := 16 }, { name := "missingMethod", type := 9, offset := 3, embedded := false, tag := "", pkgPath := "runtime", byteOffset := 24 }]) := ⟨Try.underlying137⟩
instance : AgIs Try.prog 137 := ⟨_, Try.underlying137, rfl⟩
instance : FldIs Try.prog 137 0 17 0 := ⟨_, _, Try.underlying137, rfl, rfl, rfl⟩
instance : FldIs Try.prog 137 1 17 1 := ⟨_, _, Try.underlying137, rfl, rfl, rfl⟩
instance : FldIs Try.prog 137 2 17 2 := ⟨_, _, Try.underlying137, rfl, rfl, rfl⟩
instance : FldIs Try.prog 137 3 9 3 := ⟨_, _, Try.underlying137, rfl, rfl, rfl⟩
instance : SzIs Try.prog 137 4 := ⟨by kernel_rfl⟩
instance : ByIs Try.prog 137 40 := ⟨by kernel_rfl⟩
instance : BuIs Try.prog 137 [.pointer none, .pointer none, .pointer none, strV []] [(0, 1), (1, 1), (2, 1), (3, 1)] := ⟨fun _ => by kernel_rfl⟩
instance : ZcIs Try.prog 137 [.pointer none, .pointer none, .pointer none, strV []] := ⟨by kernel_rfl⟩
instance : UIs Try.prog 138 (.array 0 16) := ⟨Try.underlying138⟩
instance : AgIs Try.prog 138 := ⟨_, Try.underlying138, rfl⟩
instance : SzIs Try.prog 138 0 := ⟨by kernel_rfl⟩
instance : ByIs Try.prog 138 0 := ⟨by kernel_rfl⟩
instance : ZcIs Try.prog 138 [] := ⟨by kernel_rfl⟩
instance : UIs Try.prog 139 (.struct #[{ name := "_", type := 138, offset := 0, embedded := false, tag := "", pkgPath := "runtime", byteOffset := 0 }]) := ⟨Try.underlying139⟩
instance : AgIs Try.prog 139 := ⟨_, Try.underlying139, rfl⟩
instance : FldIs Try.prog 139 0 138 0 := ⟨_, _, Try.underlying139, rfl, rfl, rfl⟩
instance : SzIs Try.prog 139 0 := ⟨by kernel_rfl⟩
instance : ByIs Try.prog 139 0 := ⟨by kernel_rfl⟩
instance : BuIs Try.prog 139 [] [(0, 0)] := ⟨fun _ => by kernel_rfl⟩
instance : ZcIs Try.prog 139 [] := ⟨by kernel_rfl⟩
instance : UIs Try.prog 140 (.struct #[{ name := "_", type := 138, offset := 0, embedded := false, tag := "", pkgPath := "runtime", byteOffset := 0 }]) := ⟨Try.underlying140⟩
instance : AgIs Try.prog 140 := ⟨_, Try.underlying140, rfl⟩
instance : FldIs Try.prog 140 0 138 0 := ⟨_, _, Try.underlying140, rfl, rfl, rfl⟩
instance : SzIs Try.prog 140 0 := ⟨by kernel_rfl⟩
instance : ByIs Try.prog 140 0 := ⟨by kernel_rfl⟩
instance : BuIs Try.prog 140 [] [(0, 0)] := ⟨fun _ => by kernel_rfl⟩
instance : ZcIs Try.prog 140 [] := ⟨by kernel_rfl⟩
instance : UIs Try.prog 141 (.int .u8) := ⟨Try.underlying141⟩
instance : ScIs Try.prog 141 := ⟨_, Try.underlying141, rfl⟩
instance : SzIs Try.prog 141 1 := ⟨by kernel_rfl⟩
instance : ByIs Try.prog 141 1 := ⟨by kernel_rfl⟩
instance : ZcIs Try.prog 141 [.int .u8 0] := ⟨by kernel_rfl⟩
instance : UIs Try.prog 142 (.int .u8) := ⟨Try.underlying142⟩
instance : ScIs Try.prog 142 := ⟨_, Try.underlying142, rfl⟩
instance : SzIs Try.prog 142 1 := ⟨by kernel_rfl⟩
instance : ByIs Try.prog 142 1 := ⟨by kernel_rfl⟩
instance : ZcIs Try.prog 142 [.int .u8 0] := ⟨by kernel_rfl⟩
instance : UIs Try.prog 143 (.func #[91, 91] #[4] false) := ⟨Try.underlying143⟩
instance : ScIs Try.prog 143 := ⟨_, Try.underlying143, rfl⟩
instance : SzIs Try.prog 143 1 := ⟨by kernel_rfl⟩
instance : ByIs Try.prog 143 8 := ⟨by kernel_rfl⟩
instance : ZcIs Try.prog 143 [.nilFunc] := ⟨by kernel_rfl⟩
instance : UIs Try.prog 144 (.pointer 5) := ⟨Try.underlying144⟩
instance : ScIs Try.prog 144 := ⟨_, Try.underlying144, rfl⟩
instance : SzIs Try.prog 144 1 := ⟨by kernel_rfl⟩
instance : ByIs Try.prog 144 8 := ⟨by kernel_rfl⟩
instance : ZcIs Try.prog 144 [.pointer none] := ⟨by kernel_rfl⟩
instance : UIs Try.prog 145 (.int .i32) := ⟨Try.underlying145⟩
instance : ScIs Try.prog 145 := ⟨_, Try.underlying145, rfl⟩
instance : SzIs Try.prog 145 1 := ⟨by kernel_rfl⟩
instance : ByIs Try.prog 145 4 := ⟨by kernel_rfl⟩
instance : ZcIs Try.prog 145 [.int .i32 0] := ⟨by kernel_rfl⟩
instance : UIs Try.prog 146 (.int .i32) := ⟨Try.underlying146⟩
instance : ScIs Try.prog 146 := ⟨_, Try.underlying146, rfl⟩
instance : SzIs Try.prog 146 1 := ⟨by kernel_rfl⟩
instance : ByIs Try.prog 146 4 := ⟨by kernel_rfl⟩
instance : ZcIs Try.prog 146 [.int .i32 0] := ⟨by kernel_rfl⟩
instance : UIs Try.prog 147 (.struct #[{ name := "Size_", type := 12, offset := 0, embedded := false, tag := "", pkgPath := "", byteOffset := 0 }, { name := "PtrBytes", type := 12, offset := 1, embedded := false, tag := "", pkgPath := "", byteOffset := 8 }, { name := "Hash", type := 115, offset := 2, embedded := false, tag := "", pkgPath := "", byteOffset := 16 }, { name := "TFlag", type := 141, offset := 3, embedded := false, tag := "", pkgPath := "", byteOffset := 20 }, { name := "Align_", type := 5, offset := 4, embedded := false, tag := "", pkgPath := "", byteOffset := 21 }, { name := "FieldAlign_", type := 5, offset := 5, embedded := false, tag := "", pkgPath := "", byteOffset := 22 }, { name := "Kind_", type := 142, offset := 6, embedded := false, tag := "", pkgPath := "", byteOffset := 23 }, { name := "Equal", type := 143, offset := 7, embedded := false, tag := "", pkgPath := "", byteOffset := 24 }, { name := "GCData", type := 144, offset := 8, embedded := false, tag := "", pkgPath := "", byteOffset := 32 }, { name := "Str", type := 145, offset := 9, embedded := false, tag := "", pkgPath := "", byteOffset := 40 }, { name := "PtrToThis", type := 146, offset := 10, embedded := false, tag := "", pkgPath := "", byteOffset := 44 }]) := ⟨Try.underlying147⟩
instance : AgIs Try.prog 147 := ⟨_, Try.underlying147, rfl⟩
instance : FldIs Try.prog 147 0 12 0 := ⟨_, _, Try.underlying147, rfl, rfl, rfl⟩
instance : FldIs Try.prog 147 1 12 1 := ⟨_, _, Try.underlying147, rfl, rfl, rfl⟩
instance : FldIs Try.prog 147 2 115 2 := ⟨_, _, Try.underlying147, rfl, rfl, rfl⟩
instance : FldIs Try.prog 147 3 141 3 := ⟨_, _, Try.underlying147, rfl, rfl, rfl⟩
instance : FldIs Try.prog 147 4 5 4 := ⟨_, _, Try.underlying147, rfl, rfl, rfl⟩
instance : FldIs Try.prog 147 5 5 5 := ⟨_, _, Try.underlying147, rfl, rfl, rfl⟩
instance : FldIs Try.prog 147 6 142 6 := ⟨_, _, Try.underlying147, rfl, rfl, rfl⟩
instance : FldIs Try.prog 147 7 143 7 := ⟨_, _, Try.underlying147, rfl, rfl, rfl⟩
instance : FldIs Try.prog 147 8 144 8 := ⟨_, _, Try.underlying147, rfl, rfl, rfl⟩
instance : FldIs Try.prog 147 9 145 9 := ⟨_, _, Try.underlying147, rfl, rfl, rfl⟩
instance : FldIs Try.prog 147 10 146 10 := ⟨_, _, Try.underlying147, rfl, rfl, rfl⟩
instance : SzIs Try.prog 147 11 := ⟨by kernel_rfl⟩
instance : ByIs Try.prog 147 48 := ⟨by kernel_rfl⟩
instance : BuIs Try.prog 147 [.int .u64 0, .int .u64 0, .int .u32 0, .int .u8 0, .int .u8 0, .int .u8 0, .int .u8 0, .nilFunc, .pointer none, .int .i32 0, .int .i32 0] [(0, 1), (1, 1), (2, 1), (3, 1), (4, 1), (5, 1), (6, 1), (7, 1), (8, 1), (9, 1), (10, 1)] := ⟨fun _ => by kernel_rfl⟩
instance : ZcIs Try.prog 147 [.int .u64 0, .int .u64 0, .int .u32 0, .int .u8 0, .int .u8 0, .int .u8 0, .int .u8 0, .nilFunc, .pointer none, .int .i32 0, .int .i32 0] := ⟨by kernel_rfl⟩
instance : UIs Try.prog 148 (.struct #[{ name := "Size_", type := 12, offset := 0, embedded := false, tag := "", pkgPath := "", byteOffset := 0 }, { name := "PtrBytes", type := 12, offset := 1, embedded := false, tag := "", pkgPath := "", byteOffset := 8 }, { name := "Hash", type := 115, offset := 2, embedded := false, tag := "", pkgPath := "", byteOffset := 16 }, { name := "TFlag", type := 141, offset := 3, embedded := false, tag := "", pkgPath := "", byteOffset := 20 }, { name := "Align_", type := 5, offset := 4, embedded := false, tag := "", pkgPath := "", byteOffset := 21 }, { name := "FieldAlign_", type := 5, offset := 5, embedded := false, tag := "", pkgPath := "", byteOffset := 22 }, { name := "Kind_", type := 142, offset := 6, embedded := false, tag := "", pkgPath := "", byteOffset := 23 }, { name := "Equal", type := 143, offset := 7, embedded := false, tag := "", pkgPath := "", byteOffset := 24 }, { name := "GCData", type := 144, offset := 8, embedded := false, tag := "", pkgPath := "", byteOffset := 32 }, { name := "Str", type := 145, offset := 9, embedded := false, tag := "", pkgPath := "", byteOffset := 40 }, { name := "PtrToThis", type := 146, offset := 10, embedded := false, tag := "", pkgPath := "", byteOffset := 44 }]) := ⟨Try.underlying148⟩
instance : AgIs Try.prog 148 := ⟨_, Try.underlying148, rfl⟩
instance : FldIs Try.prog 148 0 12 0 := ⟨_, _, Try.underlying148, rfl, rfl, rfl⟩
instance : FldIs Try.prog 148 1 12 1 := ⟨_, _, Try.underlying148, rfl, rfl, rfl⟩
instance : FldIs Try.prog 148 2 115 2 := ⟨_, _, Try.underlying148, rfl, rfl, rfl⟩
instance : FldIs Try.prog 148 3 141 3 := ⟨_, _, Try.underlying148, rfl, rfl, rfl⟩
instance : FldIs Try.prog 148 4 5 4 := ⟨_, _, Try.underlying148, rfl, rfl, rfl⟩
instance : FldIs Try.prog 148 5 5 5 := ⟨_, _, Try.underlying148, rfl, rfl, rfl⟩
instance : FldIs Try.prog 148 6 142 6 := ⟨_, _, Try.underlying148, rfl, rfl, rfl⟩
instance : FldIs Try.prog 148 7 143 7 := ⟨_, _, Try.underlying148, rfl, rfl, rfl⟩
instance : FldIs Try.prog 148 8 144 8 := ⟨_, _, Try.underlying148, rfl, rfl, rfl⟩
instance : FldIs Try.prog 148 9 145 9 := ⟨_, _, Try.underlying148, rfl, rfl, rfl⟩
instance : FldIs Try.prog 148 10 146 10 := ⟨_, _, Try.underlying148, rfl, rfl, rfl⟩
instance : SzIs Try.prog 148 11 := ⟨by kernel_rfl⟩
instance : ByIs Try.prog 148 48 := ⟨by kernel_rfl⟩
instance : BuIs Try.prog 148 [.int .u64 0, .int .u64 0, .int .u32 0, .int .u8 0, .int .u8 0, .int .u8 0, .int .u8 0, .nilFunc, .pointer none, .int .i32 0, .int .i32 0] [(0, 1), (1, 1), (2, 1), (3, 1), (4, 1), (5, 1), (6, 1), (7, 1), (8, 1), (9, 1), (10, 1)] := ⟨fun _ => by kernel_rfl⟩
instance : ZcIs Try.prog 148 [.int .u64 0, .int .u64 0, .int .u32 0, .int .u8 0, .int .u8 0, .int .u8 0, .int .u8 0, .nilFunc, .pointer none, .int .i32 0, .int .i32 0] := ⟨by kernel_rfl⟩
instance : UIs Try.prog 149 (.func #[3] #[] false) := ⟨Try.underlying149⟩
instance : ScIs Try.prog 149 := ⟨_, Try.underlying149, rfl⟩
instance : SzIs Try.prog 149 1 := ⟨by kernel_rfl⟩
instance : ByIs Try.prog 149 8 := ⟨by kernel_rfl⟩
instance : ZcIs Try.prog 149 [.nilFunc] := ⟨by kernel_rfl⟩
instance : UIs Try.prog 150 (.struct #[{ name := "Method", type := 9, offset := 0, embedded := false, tag := "", pkgPath := "", byteOffset := 0 }, { name := "Kind", type := 142, offset := 1, embedded := false, tag := "", pkgPath := "", byteOffset := 16 }]) := ⟨Try.underlying150⟩
instance : AgIs Try.prog 150 := ⟨_, Try.underlying150, rfl⟩
instance : FldIs Try.prog 150 0 9 0 := ⟨_, _, Try.underlying150, rfl, rfl, rfl⟩
instance : FldIs Try.prog 150 1 142 1 := ⟨_, _, Try.underlying150, rfl, rfl, rfl⟩
instance : SzIs Try.prog 150 2 := ⟨by kernel_rfl⟩
instance : ByIs Try.prog 150 24 := ⟨by kernel_rfl⟩
instance : BuIs Try.prog 150 [strV [], .int .u8 0] [(0, 1), (1, 1)] := ⟨fun _ => by kernel_rfl⟩
instance : ZcIs Try.prog 150 [strV [], .int .u8 0] := ⟨by kernel_rfl⟩
instance : UIs Try.prog 151 (.struct #[{ name := "Method", type := 9, offset := 0, embedded := false, tag := "", pkgPath := "", byteOffset := 0 }, { name := "Kind", type := 142, offset := 1, embedded := false, tag := "", pkgPath := "", byteOffset := 16 }]) := ⟨Try.underlying151⟩
instance : AgIs Try.prog 151 := ⟨_, Try.underlying151, rfl⟩
instance : FldIs Try.prog 151 0 9 0 := ⟨_, _, Try.underlying151, rfl, rfl, rfl⟩
instance : FldIs Try.prog 151 1 142 1 := ⟨_, _, Try.underlying151, rfl, rfl, rfl⟩
instance : SzIs Try.prog 151 2 := ⟨by kernel_rfl⟩
instance : ByIs Try.prog 151 24 := ⟨by kernel_rfl⟩
instance : BuIs Try.prog 151 [strV [], .int .u8 0] [(0, 1), (1, 1)] := ⟨fun _ => by kernel_rfl⟩
instance : ZcIs Try.prog 151 [strV [], .int .u8 0] := ⟨by kernel_rfl⟩
instance : FnIs Try.prog 3 := ⟨by kernel_rfl⟩
instance : FnIs Try.prog 4 := ⟨by kernel_rfl⟩
instance : FnIs Try.prog 5 := ⟨by kernel_rfl⟩
instance : FnIs Try.prog 6 := ⟨by kernel_rfl⟩
instance : FnIs Try.prog 7 := ⟨by kernel_rfl⟩
instance : FnIs Try.prog 8 := ⟨by kernel_rfl⟩
instance : FnIs Try.prog 9 := ⟨by kernel_rfl⟩
instance : FnIs Try.prog 10 := ⟨by kernel_rfl⟩
instance : FnIs Try.prog 11 := ⟨by kernel_rfl⟩
instance : FnIs Try.prog 12 := ⟨by kernel_rfl⟩
instance : FnIs Try.prog 13 := ⟨by kernel_rfl⟩
instance : FnIs Try.prog 14 := ⟨by kernel_rfl⟩
instance : FnIs Try.prog 15 := ⟨by kernel_rfl⟩
instance : FnIs Try.prog 16 := ⟨by kernel_rfl⟩
instance : FnIs Try.prog 17 := ⟨by kernel_rfl⟩
instance : FnIs Try.prog 18 := ⟨by kernel_rfl⟩
instance : FnIs Try.prog 19 := ⟨by kernel_rfl⟩
instance : FnIs Try.prog 20 := ⟨by kernel_rfl⟩
instance : FnIs Try.prog 21 := ⟨by kernel_rfl⟩
instance : FnIs Try.prog 22 := ⟨by kernel_rfl⟩
instance : FnIs Try.prog 23 := ⟨by kernel_rfl⟩
instance : FnIs Try.prog 24 := ⟨by kernel_rfl⟩
instance : FnIs Try.prog 25 := ⟨by kernel_rfl⟩
instance : FnIs Try.prog 26 := ⟨by kernel_rfl⟩
instance : FnIs Try.prog 27 := ⟨by kernel_rfl⟩
instance : FnIs Try.prog 28 := ⟨by kernel_rfl⟩
instance : FnIs Try.prog 29 := ⟨by kernel_rfl⟩
instance : FnIs Try.prog 30 := ⟨by kernel_rfl⟩
instance : FnIs Try.prog 31 := ⟨by kernel_rfl⟩
instance : FnIs Try.prog 32 := ⟨by kernel_rfl⟩
instance : FnIs Try.prog 33 := ⟨by kernel_rfl⟩
instance : FnIs Try.prog 34 := ⟨by kernel_rfl⟩
instance : FnIs Try.prog 35 := ⟨by kernel_rfl⟩
instance : FnIs Try.prog 40 := ⟨by kernel_rfl⟩
instance : FnIs Try.prog 41 := ⟨by kernel_rfl⟩
instance : FnIs Try.prog 42 := ⟨by kernel_rfl⟩
instance : FnIs Try.prog 43 := ⟨by kernel_rfl⟩
instance : FnIs Try.prog 44 := ⟨by kernel_rfl⟩
instance : FnIs Try.prog 45 := ⟨by kernel_rfl⟩
instance : FnIs Try.prog 46 := ⟨by kernel_rfl⟩
instance : FnIs Try.prog 58 := ⟨by kernel_rfl⟩
instance : FnIs Try.prog 59 := ⟨by kernel_rfl⟩
instance : FnIs Try.prog 60 := ⟨by kernel_rfl⟩
instance : FnIs Try.prog 61 := ⟨by kernel_rfl⟩
instance : FnIs Try.prog 62 := ⟨by kernel_rfl⟩
instance : FnIs Try.prog 63 := ⟨by kernel_rfl⟩
instance : FnIs Try.prog 64 := ⟨by kernel_rfl⟩
instance : FnIs Try.prog 65 := ⟨by kernel_rfl⟩
instance : FnIs Try.prog 66 := ⟨by kernel_rfl⟩
instance : FnIs Try.prog 67 := ⟨by kernel_rfl⟩
instance : FnIs Try.prog 68 := ⟨by kernel_rfl⟩
instance : FnIs Try.prog 70 := ⟨by kernel_rfl⟩
instance : FnIs Try.prog 71 := ⟨by kernel_rfl⟩
instance : FnIs Try.prog 72 := ⟨by kernel_rfl⟩
instance : FnIs Try.prog 89 := ⟨by kernel_rfl⟩
instance : FnIs Try.prog 90 := ⟨by kernel_rfl⟩
instance : FnIs Try.prog 91 := ⟨by kernel_rfl⟩
instance : FnIs Try.prog 92 := ⟨by kernel_rfl⟩
instance : FnIs Try.prog 93 := ⟨by kernel_rfl⟩
instance : FnIs Try.prog 94 := ⟨by kernel_rfl⟩
instance : FnIs Try.prog 95 := ⟨by kernel_rfl⟩
instance : FnIs Try.prog 96 := ⟨by kernel_rfl⟩
instance : FnIs Try.prog 97 := ⟨by kernel_rfl⟩
instance : FnIs Try.prog 98 := ⟨by kernel_rfl⟩
end Go.Proofs.Ytehheokalgmbgaa

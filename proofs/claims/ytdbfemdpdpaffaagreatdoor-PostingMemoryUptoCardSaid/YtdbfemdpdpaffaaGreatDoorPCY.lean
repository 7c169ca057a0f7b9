/-
  SlZ.
-/
import Derived.Test.YtdbfemdpdpaffaaGreatDoorPAS
import Derived.Shelf.SlIter.Nil
import Derived.Shelf.SortM.Plain
import Derived.Shelf.SortM.SortNone
/-
  What the seat has of maps.Keys, slices.Sorted, slices.Sort and of all that they call (printed by gensl2.py).
-/
namespace Go.Proofs.YtdbfemdpdpaffaaGreatDoor
open Go Go.RowKit Go.Shelf
theorem bears_of {P : Program} {f : FuncId} {fn B : Func} (h : P.funcs[f]? = some fn) (e : fn = { B with name := fn.name }) (hn : (fn.name == "runtime.NumGoroutine") = false) : Bears P f B := ⟨fn.name, hn, h.trans (congrArg some e)⟩
def Tryz.slkr : Ren := ⟨fun | 7 => 48 | 10 => 84 | n => n, fun | 23 => 78 | 26 => 9 | 3 => 79 | 28 => 89 | 0 => 0 | 27 => 88 | 33 => 34 | 4 => 4 | n => n, fun n => n⟩
theorem Tryz.slk : SlLaysZ.n7 Tryz.prog Tryz.slkr where
  mixed := by kernel_rfl
  f7 := bears_of Tryz.func48 (by kernel_rfl) (by kernel_rfl)
  f10 := bears_of Tryz.func84 (by kernel_rfl) (by kernel_rfl)
  t0 := Tryz.underlying0
  a0 := Tryz.isAgg0
  z0 := Tryz.sizeOf0
  v0 := Tryz.zeroValue0
  t4 := Tryz.underlying4
  a4 := Tryz.isAgg4
  z4 := Tryz.sizeOf4
  v4 := Tryz.zeroValue4
  t23 := Tryz.underlying78
  a23 := Tryz.isAgg78
  z23 := Tryz.sizeOf78
  v23 := Tryz.zeroValue78
  t26 := Tryz.underlying9
  a26 := Tryz.isAgg9
  z26 := Tryz.sizeOf9
  v26 := Tryz.zeroValue9
  t27 := Tryz.underlying88
  a27 := Tryz.isAgg88
  z27 := Tryz.sizeOf88
  v27 := Tryz.zeroValue88
  t28 := Tryz.underlying89
  a28 := Tryz.isAgg89
  z28 := Tryz.sizeOf89
  v28 := Tryz.zeroValue89
  t33 := Tryz.underlying34
  a33 := Tryz.isAgg34
  z33 := Tryz.sizeOf34
  v33 := Tryz.zeroValue34
def Tryz.slsr : Ren := ⟨fun | 6 => 47 | 8 => 82 | 9 => 83 | 11 => 115 | 13 => 117 | 12 => 116 | 23 => 137 | 24 => 138 | 14 => 128 | 15 => 129 | 16 => 130 | 17 => 131 | 18 => 132 | 19 => 133 | 20 => 134 | 21 => 135 | 22 => 136 | 25 => 143 | 26 => 144 | 27 => 145 | 28 => 146 | 29 => 147 | 30 => 148 | 31 => 155 | n => n, fun | 26 => 9 | 28 => 89 | 24 => 86 | 0 => 0 | 3 => 3 | 37 => 52 | 48 => 161 | 50 => 72 | 4 => 4 | 40 => 168 | 39 => 167 | 45 => 172 | 5 => 5 | 9 => 9 | 51 => 179 | 55 => 183 | 57 => 187 | 58 => 156 | 33 => 34 | n => n, fun n => n⟩
theorem Tryz.sls : SlLaysZ.n6 Tryz.prog Tryz.slsr where
  mixed := by kernel_rfl
  f6 := bears_of Tryz.func47 (by kernel_rfl) (by kernel_rfl)
  f8 := bears_of Tryz.func82 (by kernel_rfl) (by kernel_rfl)
  f11 := bears_of Tryz.func115 (by kernel_rfl) (by kernel_rfl)
  t0 := Tryz.underlying0
  a0 := Tryz.isAgg0
  z0 := Tryz.sizeOf0
  v0 := Tryz.zeroValue0
  t24 := Tryz.underlying86
  a24 := Tryz.isAgg86
  z24 := Tryz.sizeOf86
  v24 := Tryz.zeroValue86
  t26 := Tryz.underlying9
  a26 := Tryz.isAgg9
  z26 := Tryz.sizeOf9
  v26 := Tryz.zeroValue9
  t28 := Tryz.underlying89
  a28 := Tryz.isAgg89
  z28 := Tryz.sizeOf89
  v28 := Tryz.zeroValue89
  i26 := by kernel_rfl
def Tryz.slmr : Ren := ⟨fun | 6 => 83 | 8 => 117 | 9 => 116 | 19 => 137 | 20 => 138 | 21 => 128 | 22 => 129 | 23 => 130 | 24 => 131 | 25 => 132 | 26 => 133 | 27 => 134 | 28 => 135 | 29 => 136 | 36 => 143 | 31 => 144 | 32 => 145 | 37 => 146 | 38 => 147 | 39 => 148 | 41 => 155 | n => n, fun | 27 => 86 | 29 => 9 | 3 => 3 | 32 => 52 | 26 => 86 | 0 => 0 | 44 => 161 | 46 => 72 | 4 => 4 | 36 => 168 | 35 => 167 | 41 => 172 | 5 => 5 | 9 => 9 | 53 => 179 | 57 => 183 | 63 => 187 | 64 => 156 | n => n, fun n => n⟩
theorem Tryz.slm : SlLaysM.n6 Tryz.prog Tryz.slmr where
  mixed := by kernel_rfl
  f6 := bears_of Tryz.func83 (by kernel_rfl) (by kernel_rfl)
  f8 := Tryz.func117.trans (congrArg some (by kernel_rfl))
  f9 := bears_of Tryz.func116 (by kernel_rfl) (by kernel_rfl)
  f19 := Tryz.func137.trans (congrArg some (by kernel_rfl))
  f20 := Tryz.func138.trans (congrArg some (by kernel_rfl))
  f21 := bears_of Tryz.func128 (by kernel_rfl) (by kernel_rfl)
  f22 := bears_of Tryz.func129 (by kernel_rfl) (by kernel_rfl)
  f23 := bears_of Tryz.func130 (by kernel_rfl) (by kernel_rfl)
  f24 := bears_of Tryz.func131 (by kernel_rfl) (by kernel_rfl)
  f25 := bears_of Tryz.func132 (by kernel_rfl) (by kernel_rfl)
  f26 := bears_of Tryz.func133 (by kernel_rfl) (by kernel_rfl)
  f27 := bears_of Tryz.func134 (by kernel_rfl) (by kernel_rfl)
  f28 := bears_of Tryz.func135 (by kernel_rfl) (by kernel_rfl)
  f29 := bears_of Tryz.func136 (by kernel_rfl) (by kernel_rfl)
  f31 := Tryz.func144.trans (congrArg some (by kernel_rfl))
  f32 := Tryz.func145.trans (congrArg some (by kernel_rfl))
  f36 := bears_of Tryz.func143 (by kernel_rfl) (by kernel_rfl)
  f37 := bears_of Tryz.func146 (by kernel_rfl) (by kernel_rfl)
  f38 := bears_of Tryz.func147 (by kernel_rfl) (by kernel_rfl)
  f39 := bears_of Tryz.func148 (by kernel_rfl) (by kernel_rfl)
  f41 := bears_of Tryz.func155 (by kernel_rfl) (by kernel_rfl)
  t0 := Tryz.underlying0
  a0 := Tryz.isAgg0
  z0 := Tryz.sizeOf0
  v0 := Tryz.zeroValue0
  t3 := Tryz.underlying3
  a3 := Tryz.isAgg3
  z3 := Tryz.sizeOf3
  v3 := Tryz.zeroValue3
  t4 := Tryz.underlying4
  a4 := Tryz.isAgg4
  z4 := Tryz.sizeOf4
  v4 := Tryz.zeroValue4
  t5 := Tryz.underlying5
  a5 := Tryz.isAgg5
  z5 := Tryz.sizeOf5
  v5 := Tryz.zeroValue5
  t9 := Tryz.underlying9
  a9 := Tryz.isAgg9
  z9 := Tryz.sizeOf9
  v9 := Tryz.zeroValue9
  t26 := Tryz.underlying86
  a26 := Tryz.isAgg86
  z26 := Tryz.sizeOf86
  v26 := Tryz.zeroValue86
  t27 := Tryz.underlying86
  a27 := Tryz.isAgg86
  z27 := Tryz.sizeOf86
  v27 := Tryz.zeroValue86
  t29 := Tryz.underlying9
  a29 := Tryz.isAgg9
  z29 := Tryz.sizeOf9
  v29 := Tryz.zeroValue9
  t32 := Tryz.underlying52
  a32 := Tryz.isAgg52
  z32 := Tryz.sizeOf52
  v32 := Tryz.zeroValue52
  t35 := Tryz.underlying167
  a35 := Tryz.isAgg167
  z35 := Tryz.sizeOf167
  v35 := Tryz.zeroValue167
  t36 := Tryz.underlying168
  a36 := Tryz.isAgg168
  z36 := Tryz.sizeOf168
  v36 := Tryz.zeroValue168
  t41 := Tryz.underlying172
  a41 := Tryz.isAgg172
  z41 := Tryz.sizeOf172
  v41 := Tryz.zeroValue172
  t44 := Tryz.underlying161
  a44 := Tryz.isAgg161
  z44 := Tryz.sizeOf161
  v44 := Tryz.zeroValue161
  t46 := Tryz.underlying72
  a46 := Tryz.isAgg72
  z46 := Tryz.sizeOf72
  v46 := Tryz.zeroValue72
  t53 := Tryz.underlying179
  a53 := Tryz.isAgg179
  z53 := Tryz.sizeOf179
  v53 := Tryz.zeroValue179
  t57 := Tryz.underlying183
  a57 := Tryz.isAgg183
  z57 := Tryz.sizeOf183
  v57 := Tryz.zeroValue183
  t63 := Tryz.underlying187
  a63 := Tryz.isAgg187
  z63 := Tryz.sizeOf187
  v63 := Tryz.zeroValue187
  t64 := Tryz.underlying156
  a64 := Tryz.isAgg156
  z64 := Tryz.sizeOf156
  v64 := Tryz.zeroValue156
end Go.Proofs.YtdbfemdpdpaffaaGreatDoor

/-
  Contracts of Go's library, taken from the kit's shelf at this seat's numbers: Builder_WriteRune_k, Builder_Len_f, Builder_String_any_k, strings_Split.
-/
import Derived.Shelf.Lays
import Derived.Shelf.LaysM
import Derived.Shelf.Strings.BuilderRune
import Derived.Shelf.Strings.BuilderF
import Derived.Shelf.Strings.BuilderK
import Derived.Shelf.Strings.Split
import Derived.Test.YthmbgcmhdmekmaaDoorProg
namespace Go.Proofs
open Go.Shelf
def Tryd.lays168_ren : Go.Shelf.Ren := ⟨fun | 138 => 27 | 143 => 28 | 146 => 17 | 168 => 23 | 169 => 25 | 170 => 24 | 195 => 31 | 197 => 32 | 217 => 38 | 218 => 33 | 219 => 34 | 221 => 21 | 224 => 40 | 225 => 39 | 240 => 29 | 242 => 30 | 260 => 37 | 266 => 42 | 267 => 41 | 268 => 26 | 276 => 35 | 278 => 36 | 314 => 43 | 347 => 44 | 348 => 45 | 349 => 46 | 350 => 47 | 351 => 48 | 352 => 49 | 353 => 50 | 354 => 51 | 355 => 52 | 356 => 53 | 357 => 54 | 358 => 55 | 359 => 56 | 360 => 57 | 361 => 58 | 362 => 59 | 366 => 60 | 367 => 65 | n => n, fun | 0 => 0 | 3 => 3 | 4 => 4 | 5 => 5 | 9 => 9 | 20 => 20 | 21 => 21 | 27 => 53 | 31 => 35 | 37 => 43 | 46 => 39 | 51 => 62 | 55 => 59 | 61 => 36 | 63 => 41 | 70 => 42 | 71 => 44 | 72 => 45 | 74 => 46 | 75 => 47 | 76 => 48 | 79 => 49 | 80 => 51 | 81 => 50 | 103 => 56 | 104 => 30 | 105 => 57 | 106 => 58 | 113 => 40 | 114 => 63 | 119 => 64 | 126 => 54 | 127 => 55 | 137 => 65 | 138 => 66 | 139 => 67 | 146 => 68 | 150 => 52 | 151 => 69 | 164 => 60 | 165 => 61 | 238 => 70 | 239 => 71 | 240 => 72 | 241 => 73 | 242 => 74 | 243 => 75 | 244 => 76 | 245 => 77 | 246 => 78 | 247 => 79 | 248 => 80 | 249 => 81 | n => n, fun | 1 => 0 | 3 => 1 | 4 => 2 | n => n⟩
theorem Tryd.lays168 : Go.Proofs.Lays.n168 Tryd.prog Tryd.lays168_ren := {
  mixed := by kernel_rfl
  f168 := Tryd.func23.trans (congrArg some (by kernel_rfl))
  f240 := Tryd.func29.trans (congrArg some (by kernel_rfl))
  f242 := Tryd.func30.trans (congrArg some (by kernel_rfl))
  f276 := Tryd.func35.trans (congrArg some (by kernel_rfl))
  f278 := Tryd.func36.trans (congrArg some (by kernel_rfl))
  t0 := Tryd.underlying0
  a0 := Tryd.isAgg0
  z0 := Tryd.sizeOf0
  v0 := Tryd.zeroValue0
  t3 := Tryd.underlying3
  a3 := Tryd.isAgg3
  z3 := Tryd.sizeOf3
  v3 := Tryd.zeroValue3
  t4 := Tryd.underlying4
  a4 := Tryd.isAgg4
  z4 := Tryd.sizeOf4
  v4 := Tryd.zeroValue4
  t5 := Tryd.underlying5
  a5 := Tryd.isAgg5
  z5 := Tryd.sizeOf5
  v5 := Tryd.zeroValue5
  t9 := Tryd.underlying9
  a9 := Tryd.isAgg9
  z9 := Tryd.sizeOf9
  v9 := Tryd.zeroValue9
  t20 := Tryd.underlying20
  a20 := Tryd.isAgg20
  z20 := Tryd.sizeOf20
  v20 := Tryd.zeroValue20
  t21 := Tryd.underlying21
  a21 := Tryd.isAgg21
  z21 := Tryd.sizeOf21
  v21 := Tryd.zeroValue21
  t37 := Tryd.underlying43
  a37 := Tryd.isAgg43
  z37 := Tryd.sizeOf43
  v37 := Tryd.zeroValue43
  t46 := Tryd.underlying39
  a46 := Tryd.isAgg39
  z46 := Tryd.sizeOf39
  v46 := Tryd.zeroValue39
  t51 := Tryd.underlying62
  a51 := Tryd.isAgg62
  z51 := Tryd.sizeOf62
  v51 := Tryd.zeroValue62
  t70 := Tryd.underlying42
  a70 := Tryd.isAgg42
  z70 := Tryd.sizeOf42
  v70 := Tryd.zeroValue42
  t72 := Tryd.underlying45
  a72 := Tryd.isAgg45
  z72 := Tryd.sizeOf45
  v72 := Tryd.zeroValue45
  t75 := Tryd.underlying47
  a75 := Tryd.isAgg47
  z75 := Tryd.sizeOf47
  v75 := Tryd.zeroValue47
  t164 := Tryd.underlying60
  a164 := Tryd.isAgg60
  z164 := Tryd.sizeOf60
  v164 := Tryd.zeroValue60 }
theorem Tryd.Builder_Extra_168 : Builder.Extra Tryd.prog Tryd.lays168_ren := {
  sizeBuilder := by kernel_rfl
  liesBuilder := by kernel_rfl
  t5 := Tryd.underlying5
  a5 := Tryd.isAgg5
  z5 := Tryd.sizeOf5
  v5 := Tryd.zeroValue5
  infoByte := by kernel_rfl
  cellsByte := by kernel_rfl
  sizeByte := by kernel_rfl
  neB5 := by decide }
open Go.RowKit in
theorem Tryd.Builder_WriteRune_k (B b : Nat) (bs : List Value) (r : Int) (hr0 : -2147483648 ≤ r) (hr1 : r ≤ 2147483647) (w : World) (h : Lib.IsBuilderF 45 5 B b bs w) (hlen : bs.length + 4 ≤ 140737488355328) (hBw : B ≤ w.heap.size) :
    Calls Tryd.prog 23 #[.pointer (some ⟨b, 0, none⟩), .int .i32 r] w fun e w' => e = .returned (.tuple #[.int .i64 (Lib.runeCells r).length, .nilIface]) ∧ (Lib.BuilderAtF 45 5 B b (.pointer (some ⟨b, 0, none⟩)) (bs ++ Lib.runeCells r) w' ∧ Below B w w' ∧ Lib.OthersKept 5 (some b) w w') := Any.Builder_WriteRune_k Tryd.lays168 Tryd.Builder_Extra_168 B b bs r hr0 hr1 w h hlen hBw
def Tryd.lays170_ren : Go.Shelf.Ren := ⟨fun | 138 => 27 | 143 => 28 | 146 => 17 | 168 => 23 | 169 => 25 | 170 => 24 | 195 => 31 | 197 => 32 | 217 => 38 | 218 => 33 | 219 => 34 | 221 => 21 | 224 => 40 | 225 => 39 | 240 => 29 | 242 => 30 | 260 => 37 | 266 => 42 | 267 => 41 | 268 => 26 | 276 => 35 | 278 => 36 | 314 => 43 | 347 => 44 | 348 => 45 | 349 => 46 | 350 => 47 | 351 => 48 | 352 => 49 | 353 => 50 | 354 => 51 | 355 => 52 | 356 => 53 | 357 => 54 | 358 => 55 | 359 => 56 | 360 => 57 | 361 => 58 | 362 => 59 | 366 => 60 | 367 => 65 | n => n, fun | 0 => 0 | 3 => 3 | 5 => 5 | 27 => 53 | 31 => 35 | 37 => 43 | 46 => 39 | 51 => 62 | 55 => 59 | 61 => 36 | 63 => 41 | 70 => 42 | 71 => 44 | 72 => 45 | 74 => 46 | 75 => 47 | 76 => 48 | 79 => 49 | 80 => 51 | 81 => 50 | 103 => 56 | 104 => 30 | 105 => 57 | 106 => 58 | 113 => 40 | 114 => 63 | 119 => 64 | 126 => 54 | 127 => 55 | 137 => 65 | 138 => 66 | 139 => 67 | 146 => 68 | 150 => 52 | 151 => 69 | 164 => 60 | 165 => 61 | 238 => 70 | 239 => 71 | 240 => 72 | 241 => 73 | 242 => 74 | 243 => 75 | 244 => 76 | 245 => 77 | 246 => 78 | 247 => 79 | 248 => 80 | 249 => 81 | n => n, fun | 1 => 0 | 3 => 1 | 4 => 2 | n => n⟩
theorem Tryd.lays170 : Go.Proofs.Lays.n170 Tryd.prog Tryd.lays170_ren := {
  mixed := by kernel_rfl
  f170 := Tryd.func24.trans (congrArg some (by kernel_rfl))
  t0 := Tryd.underlying0
  a0 := Tryd.isAgg0
  z0 := Tryd.sizeOf0
  v0 := Tryd.zeroValue0
  t3 := Tryd.underlying3
  a3 := Tryd.isAgg3
  z3 := Tryd.sizeOf3
  v3 := Tryd.zeroValue3
  t37 := Tryd.underlying43
  a37 := Tryd.isAgg43
  z37 := Tryd.sizeOf43
  v37 := Tryd.zeroValue43
  t70 := Tryd.underlying42
  a70 := Tryd.isAgg42
  z70 := Tryd.sizeOf42
  v70 := Tryd.zeroValue42
  t72 := Tryd.underlying45
  a72 := Tryd.isAgg45
  z72 := Tryd.sizeOf45
  v72 := Tryd.zeroValue45 }
open Go.RowKit in
theorem Tryd.Builder_Len_f (B b : Nat) (bs : List Value) (w : World) (h : Lib.IsBuilderF 45 5 B b bs w) :
    Calls Tryd.prog 24 #[.pointer (some ⟨b, 0, none⟩)] w fun e w' => e = .returned (.int .i64 bs.length) ∧ w' = w := Any.Builder_Len_f Tryd.lays170 B b bs w h
def Tryd.lays169_ren : Go.Shelf.Ren := ⟨fun | 138 => 27 | 143 => 28 | 146 => 17 | 168 => 23 | 169 => 25 | 170 => 24 | 195 => 31 | 197 => 32 | 217 => 38 | 218 => 33 | 219 => 34 | 221 => 21 | 224 => 40 | 225 => 39 | 240 => 29 | 242 => 30 | 260 => 37 | 266 => 42 | 267 => 41 | 268 => 26 | 276 => 35 | 278 => 36 | 314 => 43 | 347 => 44 | 348 => 45 | 349 => 46 | 350 => 47 | 351 => 48 | 352 => 49 | 353 => 50 | 354 => 51 | 355 => 52 | 356 => 53 | 357 => 54 | 358 => 55 | 359 => 56 | 360 => 57 | 361 => 58 | 362 => 59 | 366 => 60 | 367 => 65 | n => n, fun | 0 => 0 | 3 => 3 | 5 => 5 | 9 => 9 | 27 => 53 | 31 => 35 | 37 => 43 | 46 => 39 | 51 => 62 | 55 => 59 | 61 => 36 | 63 => 41 | 70 => 42 | 71 => 44 | 72 => 45 | 74 => 46 | 75 => 47 | 76 => 48 | 79 => 49 | 80 => 51 | 81 => 50 | 103 => 56 | 104 => 30 | 105 => 57 | 106 => 58 | 113 => 40 | 114 => 63 | 119 => 64 | 126 => 54 | 127 => 55 | 137 => 65 | 138 => 66 | 139 => 67 | 146 => 68 | 150 => 52 | 151 => 69 | 164 => 60 | 165 => 61 | 238 => 70 | 239 => 71 | 240 => 72 | 241 => 73 | 242 => 74 | 243 => 75 | 244 => 76 | 245 => 77 | 246 => 78 | 247 => 79 | 248 => 80 | 249 => 81 | n => n, fun | 1 => 0 | 3 => 1 | 4 => 2 | n => n⟩
theorem Tryd.lays169 : Go.Proofs.Lays.n169 Tryd.prog Tryd.lays169_ren := {
  mixed := by kernel_rfl
  f169 := Tryd.func25.trans (congrArg some (by kernel_rfl))
  t0 := Tryd.underlying0
  a0 := Tryd.isAgg0
  z0 := Tryd.sizeOf0
  v0 := Tryd.zeroValue0
  t3 := Tryd.underlying3
  a3 := Tryd.isAgg3
  z3 := Tryd.sizeOf3
  v3 := Tryd.zeroValue3
  t9 := Tryd.underlying9
  a9 := Tryd.isAgg9
  z9 := Tryd.sizeOf9
  v9 := Tryd.zeroValue9
  t37 := Tryd.underlying43
  a37 := Tryd.isAgg43
  z37 := Tryd.sizeOf43
  v37 := Tryd.zeroValue43
  t70 := Tryd.underlying42
  a70 := Tryd.isAgg42
  z70 := Tryd.sizeOf42
  v70 := Tryd.zeroValue42
  t72 := Tryd.underlying45
  a72 := Tryd.isAgg45
  z72 := Tryd.sizeOf45
  v72 := Tryd.zeroValue45
  t127 := Tryd.underlying55
  a127 := Tryd.isAgg55
  z127 := Tryd.sizeOf55
  v127 := Tryd.zeroValue55 }
theorem Tryd.Builder_Extra_169 : Builder.Extra Tryd.prog Tryd.lays169_ren := {
  sizeBuilder := by kernel_rfl
  liesBuilder := by kernel_rfl
  t5 := Tryd.underlying5
  a5 := Tryd.isAgg5
  z5 := Tryd.sizeOf5
  v5 := Tryd.zeroValue5
  infoByte := by kernel_rfl
  cellsByte := by kernel_rfl
  sizeByte := by kernel_rfl
  neB5 := by decide }
open Go.RowKit in
theorem Tryd.Builder_String_any_k (B b : Nat) (l : List UInt8) (w : World) (h : Lib.IsBuilderF 45 5 B b (Lib.byteCells l) w) (hBw : B ≤ w.heap.size) :
    Calls Tryd.prog 25 #[.pointer (some ⟨b, 0, none⟩)] w fun e w' => e = .returned (.string ⟨l.toArray⟩) ∧ (Lib.IsBuilderF 45 5 B b (Lib.byteCells l) w' ∧ Below B w w' ∧ Lib.OthersKept 5 (some b) w w') := Any.Builder_String_any_k Tryd.lays169 Tryd.Builder_Extra_169 B b l w h hBw
def Tryd.lays146_ren : Go.Shelf.Ren := ⟨fun | 138 => 27 | 143 => 28 | 146 => 17 | 168 => 23 | 169 => 25 | 170 => 24 | 195 => 31 | 197 => 32 | 217 => 38 | 218 => 33 | 219 => 34 | 221 => 21 | 224 => 40 | 225 => 39 | 240 => 29 | 242 => 30 | 260 => 37 | 266 => 42 | 267 => 41 | 268 => 26 | 276 => 35 | 278 => 36 | 314 => 43 | 347 => 44 | 348 => 45 | 349 => 46 | 350 => 47 | 351 => 48 | 352 => 49 | 353 => 50 | 354 => 51 | 355 => 52 | 356 => 53 | 357 => 54 | 358 => 55 | 359 => 56 | 360 => 57 | 361 => 58 | 362 => 59 | 366 => 60 | 367 => 65 | n => n, fun | 0 => 0 | 3 => 3 | 4 => 4 | 5 => 5 | 9 => 9 | 21 => 21 | 27 => 53 | 31 => 35 | 37 => 43 | 46 => 39 | 51 => 62 | 55 => 59 | 61 => 36 | 63 => 41 | 70 => 42 | 71 => 44 | 72 => 45 | 74 => 46 | 75 => 47 | 76 => 48 | 79 => 49 | 80 => 51 | 81 => 50 | 103 => 56 | 104 => 30 | 105 => 57 | 106 => 58 | 113 => 40 | 114 => 63 | 119 => 64 | 126 => 54 | 127 => 55 | 137 => 65 | 138 => 66 | 139 => 67 | 146 => 68 | 150 => 52 | 151 => 69 | 164 => 60 | 165 => 61 | 238 => 70 | 239 => 71 | 240 => 72 | 241 => 73 | 242 => 74 | 243 => 75 | 244 => 76 | 245 => 77 | 246 => 78 | 247 => 79 | 248 => 80 | 249 => 81 | n => n, fun | 1 => 0 | 3 => 1 | 4 => 2 | n => n⟩
theorem Tryd.lays146 : Go.Proofs.Lays.n146 Tryd.prog Tryd.lays146_ren := {
  mixed := by kernel_rfl
  f138 := Tryd.func27.trans (congrArg some (by kernel_rfl))
  f143 := Tryd.func28.trans (congrArg some (by kernel_rfl))
  f146 := Tryd.func17.trans (congrArg some (by kernel_rfl))
  f195 := Tryd.func31.trans (congrArg some (by kernel_rfl))
  f197 := Tryd.func32.trans (congrArg some (by kernel_rfl))
  f217 := Tryd.func38.trans (congrArg some (by kernel_rfl))
  f218 := Tryd.func33.trans (congrArg some (by kernel_rfl))
  f219 := Tryd.func34.trans (congrArg some (by kernel_rfl))
  f221 := Tryd.func21.trans (congrArg some (by kernel_rfl))
  f224 := Tryd.func40.trans (congrArg some (by kernel_rfl))
  f225 := Tryd.func39.trans (congrArg some (by kernel_rfl))
  f260 := Tryd.func37.trans (congrArg some (by kernel_rfl))
  f266 := Tryd.func42.trans (congrArg some (by kernel_rfl))
  f267 := Tryd.func41.trans (congrArg some (by kernel_rfl))
  f268 := Tryd.func26.trans (congrArg some (by kernel_rfl))
  f314 := Tryd.func43.trans (congrArg some (by kernel_rfl))
  t0 := Tryd.underlying0
  a0 := Tryd.isAgg0
  z0 := Tryd.sizeOf0
  v0 := Tryd.zeroValue0
  t3 := Tryd.underlying3
  a3 := Tryd.isAgg3
  z3 := Tryd.sizeOf3
  v3 := Tryd.zeroValue3
  t4 := Tryd.underlying4
  a4 := Tryd.isAgg4
  z4 := Tryd.sizeOf4
  v4 := Tryd.zeroValue4
  t5 := Tryd.underlying5
  a5 := Tryd.isAgg5
  z5 := Tryd.sizeOf5
  v5 := Tryd.zeroValue5
  t9 := Tryd.underlying9
  a9 := Tryd.isAgg9
  z9 := Tryd.sizeOf9
  v9 := Tryd.zeroValue9
  t21 := Tryd.underlying21
  a21 := Tryd.isAgg21
  z21 := Tryd.sizeOf21
  v21 := Tryd.zeroValue21
  t31 := Tryd.underlying35
  a31 := Tryd.isAgg35
  z31 := Tryd.sizeOf35
  v31 := Tryd.zeroValue35
  t46 := Tryd.underlying39
  a46 := Tryd.isAgg39
  z46 := Tryd.sizeOf39
  v46 := Tryd.zeroValue39
  t51 := Tryd.underlying62
  a51 := Tryd.isAgg62
  z51 := Tryd.sizeOf62
  v51 := Tryd.zeroValue62
  t105 := Tryd.underlying57
  a105 := Tryd.isAgg57
  z105 := Tryd.sizeOf57
  v105 := Tryd.zeroValue57
  t119 := Tryd.underlying64
  a119 := Tryd.isAgg64
  z119 := Tryd.sizeOf64
  t138 := Tryd.underlying66
  a138 := Tryd.isAgg66
  z138 := Tryd.sizeOf66
  v138 := Tryd.zeroValue66
  t139 := Tryd.underlying67
  a139 := Tryd.isAgg67
  z139 := Tryd.sizeOf67
  v139 := Tryd.zeroValue67
  t146 := Tryd.underlying68
  a146 := Tryd.isAgg68
  z146 := Tryd.sizeOf68
  v146 := Tryd.zeroValue68
  g1 := by kernel_rfl
  g3 := by kernel_rfl
  g4 := by kernel_rfl }
open Go.RowKit Go.Lib in
theorem Tryd.strings_Split (s sep : ByteArray) (m : Int) (w : World) (hs : s.size < 4294967281) (hm : w.cell? ⟨0, 0, none⟩ = some (.int .i64 m)) (h1 : 1 ≤ sep.size) :
    Calls Tryd.prog 17 #[.string s, .string sep] w fun e w' =>
      e = .returned (.slice (some ⟨w.heap.size, 0, none⟩) (Lib.countB s sep + 1) (Lib.countB s sep + 1)) ∧ w' = w.alloc (.cells ((Lib.splitB sep 0 (Lib.countB s sep) s).map Value.string).toArray 9) := Any.strings_Split Tryd.lays146 (by kernel_rfl) s sep m w hs hm h1
end Go.Proofs

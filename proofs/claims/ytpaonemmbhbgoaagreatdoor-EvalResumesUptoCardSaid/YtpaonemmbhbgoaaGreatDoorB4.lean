/- The types of the seat as a table, and that the loaded program has them so. -/
import Derived.Test.YtpaonemmbhbgoaaGreatDoorB3
import Derived.Test.YtpaonemmbhbgoaaGreatDoorChecked
import Derived.KernelRfl
import Derived.Laws.MakeOwn
import Derived.Laws.Small
import Derived.Laws.Cover3
set_option maxRecDepth 10000
set_option linter.unusedVariables false
set_option linter.unusedSimpArgs false
namespace Go.Proofs.YtpaonemmbhbgoaaGreatDoor
open Go Go.Abs
def ti1 : TI := { size := 1, bytes := 8, agg := false, zero := [.nilFunc], kind := 0, flds := [], elem := 0, len := 0 }
theorem tok1 : TIOk Tryz.prog 1 ti1 := TIOk.of (z := .nilFunc) (by kernel_rfl) Tryz.underlying1 rfl rfl trivial rfl rfl rfl
def ti2 : TI := { size := 1, bytes := 8, agg := false, zero := [.int .i64 0], kind := 0, flds := [], elem := 0, len := 0 }
theorem tok2 : TIOk Tryz.prog 2 ti2 := TIOk.of (z := .int .i64 0) (by kernel_rfl) Tryz.underlying2 rfl rfl trivial rfl rfl rfl
def ti3 : TI := { size := 1, bytes := 8, agg := false, zero := [.int .i64 0], kind := 0, flds := [], elem := 0, len := 0 }
theorem tok3 : TIOk Tryz.prog 3 ti3 := TIOk.of (z := .int .i64 0) (by kernel_rfl) Tryz.underlying3 rfl rfl trivial rfl rfl rfl
def ti4 : TI := { size := 1, bytes := 1, agg := false, zero := [.bool false], kind := 0, flds := [], elem := 0, len := 0 }
theorem tok4 : TIOk Tryz.prog 4 ti4 := TIOk.of (z := .bool false) (by kernel_rfl) Tryz.underlying4 rfl rfl trivial rfl rfl rfl
def ti5 : TI := { size := 1, bytes := 1, agg := false, zero := [.int .u8 0], kind := 0, flds := [], elem := 0, len := 0 }
theorem tok5 : TIOk Tryz.prog 5 ti5 := TIOk.of (z := .int .u8 0) (by kernel_rfl) Tryz.underlying5 rfl rfl trivial rfl rfl rfl
def ti6 : TI := { size := 1, bytes := 1, agg := false, zero := [.int .u8 0], kind := 0, flds := [], elem := 0, len := 0 }
theorem tok6 : TIOk Tryz.prog 6 ti6 := TIOk.of (z := .int .u8 0) (by kernel_rfl) Tryz.underlying6 rfl rfl trivial rfl rfl rfl
def ti7 : TI := { size := 4, bytes := 24, agg := true, zero := [.int .i64 0, .int .i64 0, .bool false, .int .u8 0], kind := 1, flds := [(0, 2), (1, 3), (2, 4), (3, 6)], elem := 0, len := 0 }
theorem tok7 : TIOk Tryz.prog 7 ti7 := TIOk.of (z := .agg #[.int .i64 0, .int .i64 0, .bool false, .int .u8 0]) (by kernel_rfl) Tryz.underlying7 rfl rfl ⟨_, rfl, rfl⟩ rfl rfl rfl
def ti8 : TI := { size := 4, bytes := 24, agg := true, zero := [.int .i64 0, .int .i64 0, .bool false, .int .u8 0], kind := 1, flds := [(0, 2), (1, 3), (2, 4), (3, 6)], elem := 0, len := 0 }
theorem tok8 : TIOk Tryz.prog 8 ti8 := TIOk.of (z := .agg #[.int .i64 0, .int .i64 0, .bool false, .int .u8 0]) (by kernel_rfl) Tryz.underlying8 rfl rfl ⟨_, rfl, rfl⟩ rfl rfl rfl
def ti9 : TI := { size := 1, bytes := 16, agg := false, zero := [.string ⟨#[]⟩], kind := 5, flds := [], elem := 0, len := 0 }
theorem tok9 : TIOk Tryz.prog 9 ti9 := TIOk.of (z := .string ⟨#[]⟩) (by kernel_rfl) Tryz.underlying9 rfl rfl rfl rfl rfl rfl
def ti10 : TI := { size := 1, bytes := 16, agg := false, zero := [.string ⟨#[]⟩], kind := 5, flds := [], elem := 0, len := 0 }
theorem tok10 : TIOk Tryz.prog 10 ti10 := TIOk.of (z := .string ⟨#[]⟩) (by kernel_rfl) Tryz.underlying10 rfl rfl rfl rfl rfl rfl
def ti11 : TI := { size := 1, bytes := 16, agg := false, zero := [.string ⟨#[]⟩], kind := 5, flds := [], elem := 0, len := 0 }
theorem tok11 : TIOk Tryz.prog 11 ti11 := TIOk.of (z := .string ⟨#[]⟩) (by kernel_rfl) Tryz.underlying11 rfl rfl rfl rfl rfl rfl
def ti12 : TI := { size := 1, bytes := 8, agg := false, zero := [.int .u64 0], kind := 0, flds := [], elem := 0, len := 0 }
theorem tok12 : TIOk Tryz.prog 12 ti12 := TIOk.of (z := .int .u64 0) (by kernel_rfl) Tryz.underlying12 rfl rfl trivial rfl rfl rfl
def ti13 : TI := { size := 2, bytes := 24, agg := true, zero := [.string ⟨#[]⟩, .int .u64 0], kind := 1, flds := [(0, 9), (1, 12)], elem := 0, len := 0 }
theorem tok13 : TIOk Tryz.prog 13 ti13 := TIOk.of (z := .agg #[.string ⟨#[]⟩, .int .u64 0]) (by kernel_rfl) Tryz.underlying13 rfl rfl ⟨_, rfl, rfl⟩ rfl rfl rfl
def ti14 : TI := { size := 2, bytes := 24, agg := true, zero := [.string ⟨#[]⟩, .int .u64 0], kind := 1, flds := [(0, 9), (1, 12)], elem := 0, len := 0 }
theorem tok14 : TIOk Tryz.prog 14 ti14 := TIOk.of (z := .agg #[.string ⟨#[]⟩, .int .u64 0]) (by kernel_rfl) Tryz.underlying14 rfl rfl ⟨_, rfl, rfl⟩ rfl rfl rfl
def ti15 : TI := { size := 1, bytes := 8, agg := false, zero := [.pointer none], kind := 6, flds := [], elem := 263, len := 0 }
theorem tok15 : TIOk Tryz.prog 15 ti15 := TIOk.of (z := .pointer none) (by kernel_rfl) Tryz.underlying15 rfl rfl rfl rfl rfl rfl
def ti16 : TI := { size := 1, bytes := 8, agg := false, zero := [.pointer none], kind := 6, flds := [], elem := 266, len := 0 }
theorem tok16 : TIOk Tryz.prog 16 ti16 := TIOk.of (z := .pointer none) (by kernel_rfl) Tryz.underlying16 rfl rfl rfl rfl rfl rfl
def ti17 : TI := { size := 1, bytes := 8, agg := false, zero := [.pointer none], kind := 6, flds := [], elem := 275, len := 0 }
theorem tok17 : TIOk Tryz.prog 17 ti17 := TIOk.of (z := .pointer none) (by kernel_rfl) Tryz.underlying17 rfl rfl rfl rfl rfl rfl
def ti18 : TI := { size := 1, bytes := 8, agg := true, zero := [.pointer none], kind := 1, flds := [(0, 17)], elem := 0, len := 0 }
theorem tok18 : TIOk Tryz.prog 18 ti18 := TIOk.of (z := .agg #[.pointer none]) (by kernel_rfl) Tryz.underlying18 rfl rfl ⟨_, rfl, rfl⟩ rfl rfl rfl
def ti19 : TI := { size := 1, bytes := 8, agg := true, zero := [.pointer none], kind := 1, flds := [(0, 17)], elem := 0, len := 0 }
theorem tok19 : TIOk Tryz.prog 19 ti19 := TIOk.of (z := .agg #[.pointer none]) (by kernel_rfl) Tryz.underlying19 rfl rfl ⟨_, rfl, rfl⟩ rfl rfl rfl
def ti20 : TI := { size := 1, bytes := 16, agg := false, zero := [.nilIface], kind := 0, flds := [], elem := 0, len := 0 }
theorem tok20 : TIOk Tryz.prog 20 ti20 := TIOk.of (z := .nilIface) (by kernel_rfl) Tryz.underlying20 rfl rfl trivial rfl rfl rfl
def ti21 : TI := { size := 1, bytes := 4, agg := false, zero := [.int .i32 0], kind := 0, flds := [], elem := 0, len := 0 }
theorem tok21 : TIOk Tryz.prog 21 ti21 := TIOk.of (z := .int .i32 0) (by kernel_rfl) Tryz.underlying21 rfl rfl trivial rfl rfl rfl
def ti22 : TI := { size := 1, bytes := 24, agg := false, zero := [.slice none 0 0], kind := 2, flds := [], elem := 57, len := 0 }
theorem tok22 : TIOk Tryz.prog 22 ti22 := TIOk.of (z := .slice none 0 0) (by kernel_rfl) Tryz.underlying22 rfl rfl rfl rfl rfl rfl
def ti23 : TI := { size := 1, bytes := 8, agg := false, zero := [.int .i64 0], kind := 0, flds := [], elem := 0, len := 0 }
theorem tok23 : TIOk Tryz.prog 23 ti23 := TIOk.of (z := .int .i64 0) (by kernel_rfl) Tryz.underlying23 rfl rfl trivial rfl rfl rfl
def ti24 : TI := { size := 1, bytes := 8, agg := false, zero := [.nilFunc], kind := 0, flds := [], elem := 0, len := 0 }
theorem tok24 : TIOk Tryz.prog 24 ti24 := TIOk.of (z := .nilFunc) (by kernel_rfl) Tryz.underlying24 rfl rfl trivial rfl rfl rfl
def ti25 : TI := { size := 1, bytes := 8, agg := false, zero := [.nilFunc], kind := 0, flds := [], elem := 0, len := 0 }
theorem tok25 : TIOk Tryz.prog 25 ti25 := TIOk.of (z := .nilFunc) (by kernel_rfl) Tryz.underlying25 rfl rfl trivial rfl rfl rfl
def ti26 : TI := { size := 1, bytes := 8, agg := false, zero := [.nilFunc], kind := 0, flds := [], elem := 0, len := 0 }
theorem tok26 : TIOk Tryz.prog 26 ti26 := TIOk.of (z := .nilFunc) (by kernel_rfl) Tryz.underlying26 rfl rfl trivial rfl rfl rfl
def ti27 : TI := { size := 1, bytes := 8, agg := false, zero := [.pointer none], kind := 6, flds := [], elem := 77, len := 0 }
theorem tok27 : TIOk Tryz.prog 27 ti27 := TIOk.of (z := .pointer none) (by kernel_rfl) Tryz.underlying27 rfl rfl rfl rfl rfl rfl
def ti28 : TI := { size := 1, bytes := 8, agg := false, zero := [.nilFunc], kind := 0, flds := [], elem := 0, len := 0 }
theorem tok28 : TIOk Tryz.prog 28 ti28 := TIOk.of (z := .nilFunc) (by kernel_rfl) Tryz.underlying28 rfl rfl trivial rfl rfl rfl
def ti29 : TI := { size := 1, bytes := 24, agg := false, zero := [.slice none 0 0], kind := 2, flds := [], elem := 3, len := 0 }
theorem tok29 : TIOk Tryz.prog 29 ti29 := TIOk.of (z := .slice none 0 0) (by kernel_rfl) Tryz.underlying29 rfl rfl rfl rfl rfl rfl
def ti30 : TI := { size := 1, bytes := 8, agg := false, zero := [.nilFunc], kind := 0, flds := [], elem := 0, len := 0 }
theorem tok30 : TIOk Tryz.prog 30 ti30 := TIOk.of (z := .nilFunc) (by kernel_rfl) Tryz.underlying30 rfl rfl trivial rfl rfl rfl
def ti31 : TI := { size := 1, bytes := 8, agg := false, zero := [.nilFunc], kind := 0, flds := [], elem := 0, len := 0 }
theorem tok31 : TIOk Tryz.prog 31 ti31 := TIOk.of (z := .nilFunc) (by kernel_rfl) Tryz.underlying31 rfl rfl trivial rfl rfl rfl
def ti32 : TI := { size := 1, bytes := 8, agg := false, zero := [.nilFunc], kind := 0, flds := [], elem := 0, len := 0 }
theorem tok32 : TIOk Tryz.prog 32 ti32 := TIOk.of (z := .nilFunc) (by kernel_rfl) Tryz.underlying32 rfl rfl trivial rfl rfl rfl
def ti33 : TI := { size := 1, bytes := 24, agg := false, zero := [.slice none 0 0], kind := 2, flds := [], elem := 41, len := 0 }
theorem tok33 : TIOk Tryz.prog 33 ti33 := TIOk.of (z := .slice none 0 0) (by kernel_rfl) Tryz.underlying33 rfl rfl rfl rfl rfl rfl
def ti35 : TI := { size := 1, bytes := 8, agg := false, zero := [.nilFunc], kind := 0, flds := [], elem := 0, len := 0 }
theorem tok35 : TIOk Tryz.prog 35 ti35 := TIOk.of (z := .nilFunc) (by kernel_rfl) Tryz.underlying35 rfl rfl trivial rfl rfl rfl
def ti36 : TI := { size := 1, bytes := 8, agg := false, zero := [.nilFunc], kind := 0, flds := [], elem := 0, len := 0 }
theorem tok36 : TIOk Tryz.prog 36 ti36 := TIOk.of (z := .nilFunc) (by kernel_rfl) Tryz.underlying36 rfl rfl trivial rfl rfl rfl
def ti37 : TI := { size := 1, bytes := 8, agg := false, zero := [.nilFunc], kind := 0, flds := [], elem := 0, len := 0 }
theorem tok37 : TIOk Tryz.prog 37 ti37 := TIOk.of (z := .nilFunc) (by kernel_rfl) Tryz.underlying37 rfl rfl trivial rfl rfl rfl
def ti38 : TI := { size := 1, bytes := 8, agg := false, zero := [.nilFunc], kind := 0, flds := [], elem := 0, len := 0 }
theorem tok38 : TIOk Tryz.prog 38 ti38 := TIOk.of (z := .nilFunc) (by kernel_rfl) Tryz.underlying38 rfl rfl trivial rfl rfl rfl
def ti39 : TI := { size := 1, bytes := 8, agg := false, zero := [.nilFunc], kind := 0, flds := [], elem := 0, len := 0 }
theorem tok39 : TIOk Tryz.prog 39 ti39 := TIOk.of (z := .nilFunc) (by kernel_rfl) Tryz.underlying39 rfl rfl trivial rfl rfl rfl
def ti40 : TI := { size := 3, bytes := 24, agg := true, zero := [.int .i64 0, .int .i64 0, .int .i64 0], kind := 1, flds := [(0, 3), (1, 3), (2, 3)], elem := 0, len := 0 }
theorem tok40 : TIOk Tryz.prog 40 ti40 := TIOk.of (z := .agg #[.int .i64 0, .int .i64 0, .int .i64 0]) (by kernel_rfl) Tryz.underlying40 rfl rfl ⟨_, rfl, rfl⟩ rfl rfl rfl
def ti41 : TI := { size := 3, bytes := 24, agg := true, zero := [.int .i64 0, .int .i64 0, .int .i64 0], kind := 1, flds := [(0, 3), (1, 3), (2, 3)], elem := 0, len := 0 }
theorem tok41 : TIOk Tryz.prog 41 ti41 := TIOk.of (z := .agg #[.int .i64 0, .int .i64 0, .int .i64 0]) (by kernel_rfl) Tryz.underlying41 rfl rfl ⟨_, rfl, rfl⟩ rfl rfl rfl
def ti42 : TI := { size := 1, bytes := 8, agg := false, zero := [.nilFunc], kind := 0, flds := [], elem := 0, len := 0 }
theorem tok42 : TIOk Tryz.prog 42 ti42 := TIOk.of (z := .nilFunc) (by kernel_rfl) Tryz.underlying42 rfl rfl trivial rfl rfl rfl
def ti43 : TI := { size := 1, bytes := 8, agg := false, zero := [.nilFunc], kind := 0, flds := [], elem := 0, len := 0 }
theorem tok43 : TIOk Tryz.prog 43 ti43 := TIOk.of (z := .nilFunc) (by kernel_rfl) Tryz.underlying43 rfl rfl trivial rfl rfl rfl
def ti44 : TI := { size := 1, bytes := 8, agg := false, zero := [.nilFunc], kind := 0, flds := [], elem := 0, len := 0 }
theorem tok44 : TIOk Tryz.prog 44 ti44 := TIOk.of (z := .nilFunc) (by kernel_rfl) Tryz.underlying44 rfl rfl trivial rfl rfl rfl
def ti45 : TI := { size := 2, bytes := 32, agg := true, zero := [.int .i64 0, .slice none 0 0], kind := 1, flds := [(0, 3), (1, 29)], elem := 0, len := 0 }
theorem tok45 : TIOk Tryz.prog 45 ti45 := TIOk.of (z := .agg #[.int .i64 0, .slice none 0 0]) (by kernel_rfl) Tryz.underlying45 rfl rfl ⟨_, rfl, rfl⟩ rfl rfl rfl
def ti46 : TI := { size := 2, bytes := 32, agg := true, zero := [.int .i64 0, .slice none 0 0], kind := 1, flds := [(0, 3), (1, 29)], elem := 0, len := 0 }
theorem tok46 : TIOk Tryz.prog 46 ti46 := TIOk.of (z := .agg #[.int .i64 0, .slice none 0 0]) (by kernel_rfl) Tryz.underlying46 rfl rfl ⟨_, rfl, rfl⟩ rfl rfl rfl
def ti47 : TI := { size := 1, bytes := 24, agg := false, zero := [.slice none 0 0], kind := 2, flds := [], elem := 46, len := 0 }
theorem tok47 : TIOk Tryz.prog 47 ti47 := TIOk.of (z := .slice none 0 0) (by kernel_rfl) Tryz.underlying47 rfl rfl rfl rfl rfl rfl
def ti48 : TI := { size := 3, bytes := 40, agg := true, zero := [.slice none 0 0, .int .i64 0, .int .i64 0], kind := 1, flds := [(0, 29), (1, 3), (2, 3)], elem := 0, len := 0 }
theorem tok48 : TIOk Tryz.prog 48 ti48 := TIOk.of (z := .agg #[.slice none 0 0, .int .i64 0, .int .i64 0]) (by kernel_rfl) Tryz.underlying48 rfl rfl ⟨_, rfl, rfl⟩ rfl rfl rfl
def ti49 : TI := { size := 3, bytes := 40, agg := true, zero := [.slice none 0 0, .int .i64 0, .int .i64 0], kind := 1, flds := [(0, 29), (1, 3), (2, 3)], elem := 0, len := 0 }
theorem tok49 : TIOk Tryz.prog 49 ti49 := TIOk.of (z := .agg #[.slice none 0 0, .int .i64 0, .int .i64 0]) (by kernel_rfl) Tryz.underlying49 rfl rfl ⟨_, rfl, rfl⟩ rfl rfl rfl
def ti51 : TI := { size := 1, bytes := 8, agg := false, zero := [.nilFunc], kind := 0, flds := [], elem := 0, len := 0 }
theorem tok51 : TIOk Tryz.prog 51 ti51 := TIOk.of (z := .nilFunc) (by kernel_rfl) Tryz.underlying51 rfl rfl trivial rfl rfl rfl
def ti52 : TI := { size := 1, bytes := 8, agg := false, zero := [.nilFunc], kind := 0, flds := [], elem := 0, len := 0 }
theorem tok52 : TIOk Tryz.prog 52 ti52 := TIOk.of (z := .nilFunc) (by kernel_rfl) Tryz.underlying52 rfl rfl trivial rfl rfl rfl
def ti53 : TI := { size := 1, bytes := 8, agg := false, zero := [.nilFunc], kind := 0, flds := [], elem := 0, len := 0 }
theorem tok53 : TIOk Tryz.prog 53 ti53 := TIOk.of (z := .nilFunc) (by kernel_rfl) Tryz.underlying53 rfl rfl trivial rfl rfl rfl
def ti54 : TI := { size := 1, bytes := 8, agg := false, zero := [.nilFunc], kind := 0, flds := [], elem := 0, len := 0 }
theorem tok54 : TIOk Tryz.prog 54 ti54 := TIOk.of (z := .nilFunc) (by kernel_rfl) Tryz.underlying54 rfl rfl trivial rfl rfl rfl
def ti55 : TI := { size := 1, bytes := 8, agg := false, zero := [.nilFunc], kind := 0, flds := [], elem := 0, len := 0 }
theorem tok55 : TIOk Tryz.prog 55 ti55 := TIOk.of (z := .nilFunc) (by kernel_rfl) Tryz.underlying55 rfl rfl trivial rfl rfl rfl
def ti56 : TI := { size := 5, bytes := 88, agg := true, zero := [.int .i64 0, .int .i64 0, .slice none 0 0, .slice none 0 0, .slice none 0 0], kind := 1, flds := [(0, 3), (1, 3), (2, 29), (3, 29), (4, 47)], elem := 0, len := 0 }
theorem tok56 : TIOk Tryz.prog 56 ti56 := TIOk.of (z := .agg #[.int .i64 0, .int .i64 0, .slice none 0 0, .slice none 0 0, .slice none 0 0]) (by kernel_rfl) Tryz.underlying56 rfl rfl ⟨_, rfl, rfl⟩ rfl rfl rfl
def ti57 : TI := { size := 5, bytes := 88, agg := true, zero := [.int .i64 0, .int .i64 0, .slice none 0 0, .slice none 0 0, .slice none 0 0], kind := 1, flds := [(0, 3), (1, 3), (2, 29), (3, 29), (4, 47)], elem := 0, len := 0 }
theorem tok57 : TIOk Tryz.prog 57 ti57 := TIOk.of (z := .agg #[.int .i64 0, .int .i64 0, .slice none 0 0, .slice none 0 0, .slice none 0 0]) (by kernel_rfl) Tryz.underlying57 rfl rfl ⟨_, rfl, rfl⟩ rfl rfl rfl
def ti58 : TI := { size := 1, bytes := 8, agg := false, zero := [.nilFunc], kind := 0, flds := [], elem := 0, len := 0 }
theorem tok58 : TIOk Tryz.prog 58 ti58 := TIOk.of (z := .nilFunc) (by kernel_rfl) Tryz.underlying58 rfl rfl trivial rfl rfl rfl
def ti59 : TI := { size := 1, bytes := 8, agg := false, zero := [.nilFunc], kind := 0, flds := [], elem := 0, len := 0 }
theorem tok59 : TIOk Tryz.prog 59 ti59 := TIOk.of (z := .nilFunc) (by kernel_rfl) Tryz.underlying59 rfl rfl trivial rfl rfl rfl
def ti60 : TI := { size := 1, bytes := 8, agg := false, zero := [.nilFunc], kind := 0, flds := [], elem := 0, len := 0 }
theorem tok60 : TIOk Tryz.prog 60 ti60 := TIOk.of (z := .nilFunc) (by kernel_rfl) Tryz.underlying60 rfl rfl trivial rfl rfl rfl
def ti61 : TI := { size := 1, bytes := 8, agg := false, zero := [.nilFunc], kind := 0, flds := [], elem := 0, len := 0 }
theorem tok61 : TIOk Tryz.prog 61 ti61 := TIOk.of (z := .nilFunc) (by kernel_rfl) Tryz.underlying61 rfl rfl trivial rfl rfl rfl
def ti62 : TI := { size := 1, bytes := 8, agg := false, zero := [.nilFunc], kind := 0, flds := [], elem := 0, len := 0 }
theorem tok62 : TIOk Tryz.prog 62 ti62 := TIOk.of (z := .nilFunc) (by kernel_rfl) Tryz.underlying62 rfl rfl trivial rfl rfl rfl
def ti63 : TI := { size := 1, bytes := 8, agg := false, zero := [.nilFunc], kind := 0, flds := [], elem := 0, len := 0 }
theorem tok63 : TIOk Tryz.prog 63 ti63 := TIOk.of (z := .nilFunc) (by kernel_rfl) Tryz.underlying63 rfl rfl trivial rfl rfl rfl
def ti65 : TI := { size := 1, bytes := 8, agg := false, zero := [.nilFunc], kind := 0, flds := [], elem := 0, len := 0 }
theorem tok65 : TIOk Tryz.prog 65 ti65 := TIOk.of (z := .nilFunc) (by kernel_rfl) Tryz.underlying65 rfl rfl trivial rfl rfl rfl
def ti67 : TI := { size := 1, bytes := 8, agg := false, zero := [.nilFunc], kind := 0, flds := [], elem := 0, len := 0 }
theorem tok67 : TIOk Tryz.prog 67 ti67 := TIOk.of (z := .nilFunc) (by kernel_rfl) Tryz.underlying67 rfl rfl trivial rfl rfl rfl
def ti68 : TI := { size := 1, bytes := 8, agg := false, zero := [.nilFunc], kind := 0, flds := [], elem := 0, len := 0 }
theorem tok68 : TIOk Tryz.prog 68 ti68 := TIOk.of (z := .nilFunc) (by kernel_rfl) Tryz.underlying68 rfl rfl trivial rfl rfl rfl
def ti69 : TI := { size := 1, bytes := 8, agg := false, zero := [.nilFunc], kind := 0, flds := [], elem := 0, len := 0 }
theorem tok69 : TIOk Tryz.prog 69 ti69 := TIOk.of (z := .nilFunc) (by kernel_rfl) Tryz.underlying69 rfl rfl trivial rfl rfl rfl
def ti71 : TI := { size := 1, bytes := 8, agg := false, zero := [.nilFunc], kind := 0, flds := [], elem := 0, len := 0 }
theorem tok71 : TIOk Tryz.prog 71 ti71 := TIOk.of (z := .nilFunc) (by kernel_rfl) Tryz.underlying71 rfl rfl trivial rfl rfl rfl
def ti72 : TI := { size := 1, bytes := 8, agg := false, zero := [.nilFunc], kind := 0, flds := [], elem := 0, len := 0 }
theorem tok72 : TIOk Tryz.prog 72 ti72 := TIOk.of (z := .nilFunc) (by kernel_rfl) Tryz.underlying72 rfl rfl trivial rfl rfl rfl
def ti73 : TI := { size := 1, bytes := 8, agg := false, zero := [.nilFunc], kind := 0, flds := [], elem := 0, len := 0 }
theorem tok73 : TIOk Tryz.prog 73 ti73 := TIOk.of (z := .nilFunc) (by kernel_rfl) Tryz.underlying73 rfl rfl trivial rfl rfl rfl
def ti74 : TI := { size := 1, bytes := 8, agg := false, zero := [.nilFunc], kind := 0, flds := [], elem := 0, len := 0 }
theorem tok74 : TIOk Tryz.prog 74 ti74 := TIOk.of (z := .nilFunc) (by kernel_rfl) Tryz.underlying74 rfl rfl trivial rfl rfl rfl
def ti75 : TI := { size := 1, bytes := 24, agg := false, zero := [.slice none 0 0], kind := 2, flds := [], elem := 27, len := 0 }
theorem tok75 : TIOk Tryz.prog 75 ti75 := TIOk.of (z := .slice none 0 0) (by kernel_rfl) Tryz.underlying75 rfl rfl rfl rfl rfl rfl
def ti76 : TI := { size := 6, bytes := 112, agg := true, zero := [.int .i64 0, .int .i64 0, .slice none 0 0, .slice none 0 0, .slice none 0 0, .slice none 0 0], kind := 1, flds := [(0, 57), (5, 75)], elem := 0, len := 0 }
theorem tok76 : TIOk Tryz.prog 76 ti76 := TIOk.of (z := .agg #[.int .i64 0, .int .i64 0, .slice none 0 0, .slice none 0 0, .slice none 0 0, .slice none 0 0]) (by kernel_rfl) Tryz.underlying76 rfl rfl ⟨_, rfl, rfl⟩ rfl rfl rfl
def ti77 : TI := { size := 6, bytes := 112, agg := true, zero := [.int .i64 0, .int .i64 0, .slice none 0 0, .slice none 0 0, .slice none 0 0, .slice none 0 0], kind := 1, flds := [(0, 57), (5, 75)], elem := 0, len := 0 }
theorem tok77 : TIOk Tryz.prog 77 ti77 := TIOk.of (z := .agg #[.int .i64 0, .int .i64 0, .slice none 0 0, .slice none 0 0, .slice none 0 0, .slice none 0 0]) (by kernel_rfl) Tryz.underlying77 rfl rfl ⟨_, rfl, rfl⟩ rfl rfl rfl
def ti78 : TI := { size := 1, bytes := 8, agg := false, zero := [.nilFunc], kind := 0, flds := [], elem := 0, len := 0 }
theorem tok78 : TIOk Tryz.prog 78 ti78 := TIOk.of (z := .nilFunc) (by kernel_rfl) Tryz.underlying78 rfl rfl trivial rfl rfl rfl
def ti79 : TI := { size := 1, bytes := 8, agg := false, zero := [.pointer none], kind := 6, flds := [], elem := 22, len := 0 }
theorem tok79 : TIOk Tryz.prog 79 ti79 := TIOk.of (z := .pointer none) (by kernel_rfl) Tryz.underlying79 rfl rfl rfl rfl rfl rfl
def ti80 : TI := { size := 1, bytes := 8, agg := false, zero := [.nilFunc], kind := 0, flds := [], elem := 0, len := 0 }
theorem tok80 : TIOk Tryz.prog 80 ti80 := TIOk.of (z := .nilFunc) (by kernel_rfl) Tryz.underlying80 rfl rfl trivial rfl rfl rfl
def ti81 : TI := { size := 1, bytes := 8, agg := false, zero := [.pointer none], kind := 6, flds := [], elem := 107, len := 0 }
theorem tok81 : TIOk Tryz.prog 81 ti81 := TIOk.of (z := .pointer none) (by kernel_rfl) Tryz.underlying81 rfl rfl rfl rfl rfl rfl
def ti82 : TI := { size := 1, bytes := 8, agg := false, zero := [.nilFunc], kind := 0, flds := [], elem := 0, len := 0 }
theorem tok82 : TIOk Tryz.prog 82 ti82 := TIOk.of (z := .nilFunc) (by kernel_rfl) Tryz.underlying82 rfl rfl trivial rfl rfl rfl
def ti84 : TI := { size := 1, bytes := 8, agg := false, zero := [.nilFunc], kind := 0, flds := [], elem := 0, len := 0 }
theorem tok84 : TIOk Tryz.prog 84 ti84 := TIOk.of (z := .nilFunc) (by kernel_rfl) Tryz.underlying84 rfl rfl trivial rfl rfl rfl
def ti85 : TI := { size := 1, bytes := 8, agg := false, zero := [.nilFunc], kind := 0, flds := [], elem := 0, len := 0 }
theorem tok85 : TIOk Tryz.prog 85 ti85 := TIOk.of (z := .nilFunc) (by kernel_rfl) Tryz.underlying85 rfl rfl trivial rfl rfl rfl
def ti86 : TI := { size := 1, bytes := 8, agg := false, zero := [.nilFunc], kind := 0, flds := [], elem := 0, len := 0 }
theorem tok86 : TIOk Tryz.prog 86 ti86 := TIOk.of (z := .nilFunc) (by kernel_rfl) Tryz.underlying86 rfl rfl trivial rfl rfl rfl
def ti88 : TI := { size := 1, bytes := 8, agg := false, zero := [.nilFunc], kind := 0, flds := [], elem := 0, len := 0 }
theorem tok88 : TIOk Tryz.prog 88 ti88 := TIOk.of (z := .nilFunc) (by kernel_rfl) Tryz.underlying88 rfl rfl trivial rfl rfl rfl
def ti89 : TI := { size := 1, bytes := 24, agg := false, zero := [.slice none 0 0], kind := 2, flds := [], elem := 33, len := 0 }
theorem tok89 : TIOk Tryz.prog 89 ti89 := TIOk.of (z := .slice none 0 0) (by kernel_rfl) Tryz.underlying89 rfl rfl rfl rfl rfl rfl
def ti90 : TI := { size := 1, bytes := 8, agg := false, zero := [.nilFunc], kind := 0, flds := [], elem := 0, len := 0 }
theorem tok90 : TIOk Tryz.prog 90 ti90 := TIOk.of (z := .nilFunc) (by kernel_rfl) Tryz.underlying90 rfl rfl trivial rfl rfl rfl
def ti91 : TI := { size := 1, bytes := 8, agg := false, zero := [.nilFunc], kind := 0, flds := [], elem := 0, len := 0 }
theorem tok91 : TIOk Tryz.prog 91 ti91 := TIOk.of (z := .nilFunc) (by kernel_rfl) Tryz.underlying91 rfl rfl trivial rfl rfl rfl
def ti92 : TI := { size := 1, bytes := 8, agg := false, zero := [.pointer none], kind := 6, flds := [], elem := 98, len := 0 }
theorem tok92 : TIOk Tryz.prog 92 ti92 := TIOk.of (z := .pointer none) (by kernel_rfl) Tryz.underlying92 rfl rfl rfl rfl rfl rfl
def ti93 : TI := { size := 1, bytes := 8, agg := false, zero := [.pointer none], kind := 6, flds := [], elem := 189, len := 0 }
theorem tok93 : TIOk Tryz.prog 93 ti93 := TIOk.of (z := .pointer none) (by kernel_rfl) Tryz.underlying93 rfl rfl rfl rfl rfl rfl
def ti94 : TI := { size := 1, bytes := 16, agg := false, zero := [.nilIface], kind := 0, flds := [], elem := 0, len := 0 }
theorem tok94 : TIOk Tryz.prog 94 ti94 := TIOk.of (z := .nilIface) (by kernel_rfl) Tryz.underlying94 rfl rfl trivial rfl rfl rfl
def ti95 : TI := { size := 1, bytes := 8, agg := false, zero := [.pointer none], kind := 6, flds := [], elem := 152, len := 0 }
theorem tok95 : TIOk Tryz.prog 95 ti95 := TIOk.of (z := .pointer none) (by kernel_rfl) Tryz.underlying95 rfl rfl rfl rfl rfl rfl
def ti96 : TI := { size := 1, bytes := 24, agg := false, zero := [.slice none 0 0], kind := 2, flds := [], elem := 177, len := 0 }
theorem tok96 : TIOk Tryz.prog 96 ti96 := TIOk.of (z := .slice none 0 0) (by kernel_rfl) Tryz.underlying96 rfl rfl rfl rfl rfl rfl
def ti97 : TI := { size := 8, bytes := 104, agg := true, zero := [.pointer none, .pointer none, .nilIface, .pointer none, .slice none 0 0, .int .i64 0, .int .i64 0, .slice none 0 0], kind := 1, flds := [(0, 81), (1, 93), (2, 94), (3, 95), (4, 29), (5, 3), (6, 3), (7, 96)], elem := 0, len := 0 }
theorem tok97 : TIOk Tryz.prog 97 ti97 := TIOk.of (z := .agg #[.pointer none, .pointer none, .nilIface, .pointer none, .slice none 0 0, .int .i64 0, .int .i64 0, .slice none 0 0]) (by kernel_rfl) Tryz.underlying97 rfl rfl ⟨_, rfl, rfl⟩ rfl rfl rfl
def ti98 : TI := { size := 8, bytes := 104, agg := true, zero := [.pointer none, .pointer none, .nilIface, .pointer none, .slice none 0 0, .int .i64 0, .int .i64 0, .slice none 0 0], kind := 1, flds := [(0, 81), (1, 93), (2, 94), (3, 95), (4, 29), (5, 3), (6, 3), (7, 96)], elem := 0, len := 0 }
theorem tok98 : TIOk Tryz.prog 98 ti98 := TIOk.of (z := .agg #[.pointer none, .pointer none, .nilIface, .pointer none, .slice none 0 0, .int .i64 0, .int .i64 0, .slice none 0 0]) (by kernel_rfl) Tryz.underlying98 rfl rfl ⟨_, rfl, rfl⟩ rfl rfl rfl
def ti99 : TI := { size := 1, bytes := 8, agg := false, zero := [.nilFunc], kind := 0, flds := [], elem := 0, len := 0 }
theorem tok99 : TIOk Tryz.prog 99 ti99 := TIOk.of (z := .nilFunc) (by kernel_rfl) Tryz.underlying99 rfl rfl trivial rfl rfl rfl
def ti100 : TI := { size := 1, bytes := 8, agg := false, zero := [.nilFunc], kind := 0, flds := [], elem := 0, len := 0 }
theorem tok100 : TIOk Tryz.prog 100 ti100 := TIOk.of (z := .nilFunc) (by kernel_rfl) Tryz.underlying100 rfl rfl trivial rfl rfl rfl
def ti101 : TI := { size := 1, bytes := 8, agg := false, zero := [.pointer none], kind := 6, flds := [], elem := 105, len := 0 }
theorem tok101 : TIOk Tryz.prog 101 ti101 := TIOk.of (z := .pointer none) (by kernel_rfl) Tryz.underlying101 rfl rfl rfl rfl rfl rfl
def ti102 : TI := { size := 1, bytes := 8, agg := false, zero := [.nilFunc], kind := 0, flds := [], elem := 0, len := 0 }
theorem tok102 : TIOk Tryz.prog 102 ti102 := TIOk.of (z := .nilFunc) (by kernel_rfl) Tryz.underlying102 rfl rfl trivial rfl rfl rfl
def ti103 : TI := { size := 1, bytes := 24, agg := false, zero := [.slice none 0 0], kind := 2, flds := [], elem := 81, len := 0 }
theorem tok103 : TIOk Tryz.prog 103 ti103 := TIOk.of (z := .slice none 0 0) (by kernel_rfl) Tryz.underlying103 rfl rfl rfl rfl rfl rfl
def ti104 : TI := { size := 4, bytes := 64, agg := true, zero := [.pointer none, .slice none 0 0, .slice none 0 0, .int .i64 0], kind := 1, flds := [(0, 81), (1, 29), (2, 103), (3, 3)], elem := 0, len := 0 }
theorem tok104 : TIOk Tryz.prog 104 ti104 := TIOk.of (z := .agg #[.pointer none, .slice none 0 0, .slice none 0 0, .int .i64 0]) (by kernel_rfl) Tryz.underlying104 rfl rfl ⟨_, rfl, rfl⟩ rfl rfl rfl
def ti105 : TI := { size := 4, bytes := 64, agg := true, zero := [.pointer none, .slice none 0 0, .slice none 0 0, .int .i64 0], kind := 1, flds := [(0, 81), (1, 29), (2, 103), (3, 3)], elem := 0, len := 0 }
theorem tok105 : TIOk Tryz.prog 105 ti105 := TIOk.of (z := .agg #[.pointer none, .slice none 0 0, .slice none 0 0, .int .i64 0]) (by kernel_rfl) Tryz.underlying105 rfl rfl ⟨_, rfl, rfl⟩ rfl rfl rfl
def ti106 : TI := { size := 5, bytes := 88, agg := true, zero := [.int .i64 0, .int .i64 0, .slice none 0 0, .slice none 0 0, .slice none 0 0], kind := 1, flds := [(0, 3), (1, 3), (2, 29), (3, 103), (4, 47)], elem := 0, len := 0 }
theorem tok106 : TIOk Tryz.prog 106 ti106 := TIOk.of (z := .agg #[.int .i64 0, .int .i64 0, .slice none 0 0, .slice none 0 0, .slice none 0 0]) (by kernel_rfl) Tryz.underlying106 rfl rfl ⟨_, rfl, rfl⟩ rfl rfl rfl
def ti107 : TI := { size := 5, bytes := 88, agg := true, zero := [.int .i64 0, .int .i64 0, .slice none 0 0, .slice none 0 0, .slice none 0 0], kind := 1, flds := [(0, 3), (1, 3), (2, 29), (3, 103), (4, 47)], elem := 0, len := 0 }
theorem tok107 : TIOk Tryz.prog 107 ti107 := TIOk.of (z := .agg #[.int .i64 0, .int .i64 0, .slice none 0 0, .slice none 0 0, .slice none 0 0]) (by kernel_rfl) Tryz.underlying107 rfl rfl ⟨_, rfl, rfl⟩ rfl rfl rfl
def ti108 : TI := { size := 1, bytes := 8, agg := false, zero := [.nilFunc], kind := 0, flds := [], elem := 0, len := 0 }
theorem tok108 : TIOk Tryz.prog 108 ti108 := TIOk.of (z := .nilFunc) (by kernel_rfl) Tryz.underlying108 rfl rfl trivial rfl rfl rfl
def ti109 : TI := { size := 1, bytes := 8, agg := false, zero := [.nilFunc], kind := 0, flds := [], elem := 0, len := 0 }
theorem tok109 : TIOk Tryz.prog 109 ti109 := TIOk.of (z := .nilFunc) (by kernel_rfl) Tryz.underlying109 rfl rfl trivial rfl rfl rfl
def ti110 : TI := { size := 1, bytes := 8, agg := false, zero := [.nilFunc], kind := 0, flds := [], elem := 0, len := 0 }
theorem tok110 : TIOk Tryz.prog 110 ti110 := TIOk.of (z := .nilFunc) (by kernel_rfl) Tryz.underlying110 rfl rfl trivial rfl rfl rfl
def ti111 : TI := { size := 1, bytes := 8, agg := false, zero := [.nilFunc], kind := 0, flds := [], elem := 0, len := 0 }
theorem tok111 : TIOk Tryz.prog 111 ti111 := TIOk.of (z := .nilFunc) (by kernel_rfl) Tryz.underlying111 rfl rfl trivial rfl rfl rfl
def ti112 : TI := { size := 1, bytes := 8, agg := false, zero := [.nilFunc], kind := 0, flds := [], elem := 0, len := 0 }
theorem tok112 : TIOk Tryz.prog 112 ti112 := TIOk.of (z := .nilFunc) (by kernel_rfl) Tryz.underlying112 rfl rfl trivial rfl rfl rfl
def ti113 : TI := { size := 1, bytes := 8, agg := false, zero := [.nilFunc], kind := 0, flds := [], elem := 0, len := 0 }
theorem tok113 : TIOk Tryz.prog 113 ti113 := TIOk.of (z := .nilFunc) (by kernel_rfl) Tryz.underlying113 rfl rfl trivial rfl rfl rfl
def ti114 : TI := { size := 1, bytes := 8, agg := false, zero := [.nilFunc], kind := 0, flds := [], elem := 0, len := 0 }
theorem tok114 : TIOk Tryz.prog 114 ti114 := TIOk.of (z := .nilFunc) (by kernel_rfl) Tryz.underlying114 rfl rfl trivial rfl rfl rfl
def ti115 : TI := { size := 1, bytes := 8, agg := false, zero := [.nilFunc], kind := 0, flds := [], elem := 0, len := 0 }
theorem tok115 : TIOk Tryz.prog 115 ti115 := TIOk.of (z := .nilFunc) (by kernel_rfl) Tryz.underlying115 rfl rfl trivial rfl rfl rfl
def ti116 : TI := { size := 1, bytes := 8, agg := false, zero := [.nilFunc], kind := 0, flds := [], elem := 0, len := 0 }
theorem tok116 : TIOk Tryz.prog 116 ti116 := TIOk.of (z := .nilFunc) (by kernel_rfl) Tryz.underlying116 rfl rfl trivial rfl rfl rfl
def ti117 : TI := { size := 1, bytes := 8, agg := false, zero := [.nilFunc], kind := 0, flds := [], elem := 0, len := 0 }
theorem tok117 : TIOk Tryz.prog 117 ti117 := TIOk.of (z := .nilFunc) (by kernel_rfl) Tryz.underlying117 rfl rfl trivial rfl rfl rfl
def ti118 : TI := { size := 1, bytes := 8, agg := false, zero := [.nilFunc], kind := 0, flds := [], elem := 0, len := 0 }
theorem tok118 : TIOk Tryz.prog 118 ti118 := TIOk.of (z := .nilFunc) (by kernel_rfl) Tryz.underlying118 rfl rfl trivial rfl rfl rfl
def ti119 : TI := { size := 1, bytes := 8, agg := false, zero := [.nilFunc], kind := 0, flds := [], elem := 0, len := 0 }
theorem tok119 : TIOk Tryz.prog 119 ti119 := TIOk.of (z := .nilFunc) (by kernel_rfl) Tryz.underlying119 rfl rfl trivial rfl rfl rfl
def ti120 : TI := { size := 1, bytes := 8, agg := false, zero := [.pointer none], kind := 6, flds := [], elem := 126, len := 0 }
theorem tok120 : TIOk Tryz.prog 120 ti120 := TIOk.of (z := .pointer none) (by kernel_rfl) Tryz.underlying120 rfl rfl rfl rfl rfl rfl
def ti121 : TI := { size := 1, bytes := 8, agg := false, zero := [.nilFunc], kind := 0, flds := [], elem := 0, len := 0 }
theorem tok121 : TIOk Tryz.prog 121 ti121 := TIOk.of (z := .nilFunc) (by kernel_rfl) Tryz.underlying121 rfl rfl trivial rfl rfl rfl
def ti122 : TI := { size := 1, bytes := 8, agg := false, zero := [.map none], kind := 4, flds := [], elem := 3, len := 0 }
theorem tok122 : TIOk Tryz.prog 122 ti122 := TIOk.of (z := .map none) (by kernel_rfl) Tryz.underlying122 rfl rfl ⟨_, rfl⟩ rfl rfl rfl
def ti123 : TI := { size := 1, bytes := 8, agg := false, zero := [.nilFunc], kind := 0, flds := [], elem := 0, len := 0 }
theorem tok123 : TIOk Tryz.prog 123 ti123 := TIOk.of (z := .nilFunc) (by kernel_rfl) Tryz.underlying123 rfl rfl trivial rfl rfl rfl
def ti124 : TI := { size := 10, bytes := 80, agg := true, zero := [.int .i64 0, .int .i64 0, .int .i64 0, .int .i64 0, .int .i64 0, .int .i64 0, .int .i64 0, .int .i64 0, .int .i64 0, .int .i64 0], kind := 3, flds := [], elem := 3, len := 10 }
theorem tok124 : TIOk Tryz.prog 124 ti124 := TIOk.of (z := .agg #[.int .i64 0, .int .i64 0, .int .i64 0, .int .i64 0, .int .i64 0, .int .i64 0, .int .i64 0, .int .i64 0, .int .i64 0, .int .i64 0]) (by kernel_rfl) Tryz.underlying124 rfl rfl rfl rfl rfl rfl
def ti125 : TI := { size := 2, bytes := 32, agg := true, zero := [.slice none 0 0, .pointer none], kind := 1, flds := [(0, 103), (1, 81)], elem := 0, len := 0 }
theorem tok125 : TIOk Tryz.prog 125 ti125 := TIOk.of (z := .agg #[.slice none 0 0, .pointer none]) (by kernel_rfl) Tryz.underlying125 rfl rfl ⟨_, rfl, rfl⟩ rfl rfl rfl
def ti126 : TI := { size := 2, bytes := 32, agg := true, zero := [.slice none 0 0, .pointer none], kind := 1, flds := [(0, 103), (1, 81)], elem := 0, len := 0 }
theorem tok126 : TIOk Tryz.prog 126 ti126 := TIOk.of (z := .agg #[.slice none 0 0, .pointer none]) (by kernel_rfl) Tryz.underlying126 rfl rfl ⟨_, rfl, rfl⟩ rfl rfl rfl
def ti127 : TI := { size := 1, bytes := 8, agg := false, zero := [.nilFunc], kind := 0, flds := [], elem := 0, len := 0 }
theorem tok127 : TIOk Tryz.prog 127 ti127 := TIOk.of (z := .nilFunc) (by kernel_rfl) Tryz.underlying127 rfl rfl trivial rfl rfl rfl
def ti128 : TI := { size := 1, bytes := 8, agg := false, zero := [.nilFunc], kind := 0, flds := [], elem := 0, len := 0 }
theorem tok128 : TIOk Tryz.prog 128 ti128 := TIOk.of (z := .nilFunc) (by kernel_rfl) Tryz.underlying128 rfl rfl trivial rfl rfl rfl
def ti129 : TI := { size := 1, bytes := 8, agg := false, zero := [.nilFunc], kind := 0, flds := [], elem := 0, len := 0 }
theorem tok129 : TIOk Tryz.prog 129 ti129 := TIOk.of (z := .nilFunc) (by kernel_rfl) Tryz.underlying129 rfl rfl trivial rfl rfl rfl
def ti131 : TI := { size := 1, bytes := 8, agg := true, zero := [.int .i64 0], kind := 1, flds := [(0, 3)], elem := 0, len := 0 }
theorem tok131 : TIOk Tryz.prog 131 ti131 := TIOk.of (z := .agg #[.int .i64 0]) (by kernel_rfl) Tryz.underlying131 rfl rfl ⟨_, rfl, rfl⟩ rfl rfl rfl
def ti132 : TI := { size := 1, bytes := 8, agg := true, zero := [.int .i64 0], kind := 1, flds := [(0, 3)], elem := 0, len := 0 }
theorem tok132 : TIOk Tryz.prog 132 ti132 := TIOk.of (z := .agg #[.int .i64 0]) (by kernel_rfl) Tryz.underlying132 rfl rfl ⟨_, rfl, rfl⟩ rfl rfl rfl
def ti134 : TI := { size := 1, bytes := 8, agg := false, zero := [.nilFunc], kind := 0, flds := [], elem := 0, len := 0 }
theorem tok134 : TIOk Tryz.prog 134 ti134 := TIOk.of (z := .nilFunc) (by kernel_rfl) Tryz.underlying134 rfl rfl trivial rfl rfl rfl
def ti135 : TI := { size := 1, bytes := 8, agg := false, zero := [.nilFunc], kind := 0, flds := [], elem := 0, len := 0 }
theorem tok135 : TIOk Tryz.prog 135 ti135 := TIOk.of (z := .nilFunc) (by kernel_rfl) Tryz.underlying135 rfl rfl trivial rfl rfl rfl
def ti136 : TI := { size := 1, bytes := 8, agg := false, zero := [.nilFunc], kind := 0, flds := [], elem := 0, len := 0 }
theorem tok136 : TIOk Tryz.prog 136 ti136 := TIOk.of (z := .nilFunc) (by kernel_rfl) Tryz.underlying136 rfl rfl trivial rfl rfl rfl
def ti137 : TI := { size := 1, bytes := 8, agg := false, zero := [.map none], kind := 4, flds := [], elem := 141, len := 0 }
theorem tok137 : TIOk Tryz.prog 137 ti137 := TIOk.of (z := .map none) (by kernel_rfl) Tryz.underlying137 rfl rfl ⟨_, rfl⟩ rfl rfl rfl
def ti138 : TI := { size := 1, bytes := 8, agg := false, zero := [.nilFunc], kind := 0, flds := [], elem := 0, len := 0 }
theorem tok138 : TIOk Tryz.prog 138 ti138 := TIOk.of (z := .nilFunc) (by kernel_rfl) Tryz.underlying138 rfl rfl trivial rfl rfl rfl
def ti139 : TI := { size := 1, bytes := 8, agg := false, zero := [.nilFunc], kind := 0, flds := [], elem := 0, len := 0 }
theorem tok139 : TIOk Tryz.prog 139 ti139 := TIOk.of (z := .nilFunc) (by kernel_rfl) Tryz.underlying139 rfl rfl trivial rfl rfl rfl
def ti140 : TI := { size := 1, bytes := 8, agg := false, zero := [.nilFunc], kind := 0, flds := [], elem := 0, len := 0 }
theorem tok140 : TIOk Tryz.prog 140 ti140 := TIOk.of (z := .nilFunc) (by kernel_rfl) Tryz.underlying140 rfl rfl trivial rfl rfl rfl
def ti143 : TI := { size := 1, bytes := 8, agg := false, zero := [.nilFunc], kind := 0, flds := [], elem := 0, len := 0 }
theorem tok143 : TIOk Tryz.prog 143 ti143 := TIOk.of (z := .nilFunc) (by kernel_rfl) Tryz.underlying143 rfl rfl trivial rfl rfl rfl
def ti144 : TI := { size := 1, bytes := 8, agg := false, zero := [.nilFunc], kind := 0, flds := [], elem := 0, len := 0 }
theorem tok144 : TIOk Tryz.prog 144 ti144 := TIOk.of (z := .nilFunc) (by kernel_rfl) Tryz.underlying144 rfl rfl trivial rfl rfl rfl
def ti145 : TI := { size := 1, bytes := 8, agg := false, zero := [.nilFunc], kind := 0, flds := [], elem := 0, len := 0 }
theorem tok145 : TIOk Tryz.prog 145 ti145 := TIOk.of (z := .nilFunc) (by kernel_rfl) Tryz.underlying145 rfl rfl trivial rfl rfl rfl
def ti146 : TI := { size := 1, bytes := 8, agg := false, zero := [.nilFunc], kind := 0, flds := [], elem := 0, len := 0 }
theorem tok146 : TIOk Tryz.prog 146 ti146 := TIOk.of (z := .nilFunc) (by kernel_rfl) Tryz.underlying146 rfl rfl trivial rfl rfl rfl
def ti147 : TI := { size := 1, bytes := 8, agg := false, zero := [.nilFunc], kind := 0, flds := [], elem := 0, len := 0 }
theorem tok147 : TIOk Tryz.prog 147 ti147 := TIOk.of (z := .nilFunc) (by kernel_rfl) Tryz.underlying147 rfl rfl trivial rfl rfl rfl
def ti148 : TI := { size := 1, bytes := 8, agg := false, zero := [.nilFunc], kind := 0, flds := [], elem := 0, len := 0 }
theorem tok148 : TIOk Tryz.prog 148 ti148 := TIOk.of (z := .nilFunc) (by kernel_rfl) Tryz.underlying148 rfl rfl trivial rfl rfl rfl
def ti149 : TI := { size := 1, bytes := 8, agg := false, zero := [.nilFunc], kind := 0, flds := [], elem := 0, len := 0 }
theorem tok149 : TIOk Tryz.prog 149 ti149 := TIOk.of (z := .nilFunc) (by kernel_rfl) Tryz.underlying149 rfl rfl trivial rfl rfl rfl
def ti150 : TI := { size := 1, bytes := 24, agg := false, zero := [.slice none 0 0], kind := 2, flds := [], elem := 94, len := 0 }
theorem tok150 : TIOk Tryz.prog 150 ti150 := TIOk.of (z := .slice none 0 0) (by kernel_rfl) Tryz.underlying150 rfl rfl rfl rfl rfl rfl
def ti151 : TI := { size := 4, bytes := 48, agg := true, zero := [.pointer none, .pointer none, .slice none 0 0, .pointer none], kind := 1, flds := [(0, 81), (1, 93), (2, 150), (3, 95)], elem := 0, len := 0 }
theorem tok151 : TIOk Tryz.prog 151 ti151 := TIOk.of (z := .agg #[.pointer none, .pointer none, .slice none 0 0, .pointer none]) (by kernel_rfl) Tryz.underlying151 rfl rfl ⟨_, rfl, rfl⟩ rfl rfl rfl
def ti152 : TI := { size := 4, bytes := 48, agg := true, zero := [.pointer none, .pointer none, .slice none 0 0, .pointer none], kind := 1, flds := [(0, 81), (1, 93), (2, 150), (3, 95)], elem := 0, len := 0 }
theorem tok152 : TIOk Tryz.prog 152 ti152 := TIOk.of (z := .agg #[.pointer none, .pointer none, .slice none 0 0, .pointer none]) (by kernel_rfl) Tryz.underlying152 rfl rfl ⟨_, rfl, rfl⟩ rfl rfl rfl
def ti153 : TI := { size := 1, bytes := 8, agg := false, zero := [.nilFunc], kind := 0, flds := [], elem := 0, len := 0 }
theorem tok153 : TIOk Tryz.prog 153 ti153 := TIOk.of (z := .nilFunc) (by kernel_rfl) Tryz.underlying153 rfl rfl trivial rfl rfl rfl
def ti154 : TI := { size := 1, bytes := 8, agg := false, zero := [.pointer none], kind := 6, flds := [], elem := 156, len := 0 }
theorem tok154 : TIOk Tryz.prog 154 ti154 := TIOk.of (z := .pointer none) (by kernel_rfl) Tryz.underlying154 rfl rfl rfl rfl rfl rfl
def ti155 : TI := { size := 2, bytes := 32, agg := true, zero := [.int .i64 0, .slice none 0 0], kind := 1, flds := [(0, 3), (1, 150)], elem := 0, len := 0 }
theorem tok155 : TIOk Tryz.prog 155 ti155 := TIOk.of (z := .agg #[.int .i64 0, .slice none 0 0]) (by kernel_rfl) Tryz.underlying155 rfl rfl ⟨_, rfl, rfl⟩ rfl rfl rfl
def ti156 : TI := { size := 2, bytes := 32, agg := true, zero := [.int .i64 0, .slice none 0 0], kind := 1, flds := [(0, 3), (1, 150)], elem := 0, len := 0 }
theorem tok156 : TIOk Tryz.prog 156 ti156 := TIOk.of (z := .agg #[.int .i64 0, .slice none 0 0]) (by kernel_rfl) Tryz.underlying156 rfl rfl ⟨_, rfl, rfl⟩ rfl rfl rfl
def ti157 : TI := { size := 1, bytes := 8, agg := false, zero := [.nilFunc], kind := 0, flds := [], elem := 0, len := 0 }
theorem tok157 : TIOk Tryz.prog 157 ti157 := TIOk.of (z := .nilFunc) (by kernel_rfl) Tryz.underlying157 rfl rfl trivial rfl rfl rfl
def ti158 : TI := { size := 1, bytes := 8, agg := false, zero := [.nilFunc], kind := 0, flds := [], elem := 0, len := 0 }
theorem tok158 : TIOk Tryz.prog 158 ti158 := TIOk.of (z := .nilFunc) (by kernel_rfl) Tryz.underlying158 rfl rfl trivial rfl rfl rfl
def ti159 : TI := { size := 1, bytes := 8, agg := false, zero := [.nilFunc], kind := 0, flds := [], elem := 0, len := 0 }
theorem tok159 : TIOk Tryz.prog 159 ti159 := TIOk.of (z := .nilFunc) (by kernel_rfl) Tryz.underlying159 rfl rfl trivial rfl rfl rfl
def ti160 : TI := { size := 1, bytes := 8, agg := false, zero := [.nilFunc], kind := 0, flds := [], elem := 0, len := 0 }
theorem tok160 : TIOk Tryz.prog 160 ti160 := TIOk.of (z := .nilFunc) (by kernel_rfl) Tryz.underlying160 rfl rfl trivial rfl rfl rfl
def ti161 : TI := { size := 1, bytes := 8, agg := false, zero := [.int .u64 0], kind := 0, flds := [], elem := 0, len := 0 }
theorem tok161 : TIOk Tryz.prog 161 ti161 := TIOk.of (z := .int .u64 0) (by kernel_rfl) Tryz.underlying161 rfl rfl trivial rfl rfl rfl
def ti162 : TI := { size := 1, bytes := 8, agg := false, zero := [.nilFunc], kind := 0, flds := [], elem := 0, len := 0 }
theorem tok162 : TIOk Tryz.prog 162 ti162 := TIOk.of (z := .nilFunc) (by kernel_rfl) Tryz.underlying162 rfl rfl trivial rfl rfl rfl
def ti163 : TI := { size := 1, bytes := 8, agg := false, zero := [.nilFunc], kind := 0, flds := [], elem := 0, len := 0 }
theorem tok163 : TIOk Tryz.prog 163 ti163 := TIOk.of (z := .nilFunc) (by kernel_rfl) Tryz.underlying163 rfl rfl trivial rfl rfl rfl
def ti164 : TI := { size := 1, bytes := 8, agg := false, zero := [.nilFunc], kind := 0, flds := [], elem := 0, len := 0 }
theorem tok164 : TIOk Tryz.prog 164 ti164 := TIOk.of (z := .nilFunc) (by kernel_rfl) Tryz.underlying164 rfl rfl trivial rfl rfl rfl
def ti165 : TI := { size := 1, bytes := 8, agg := false, zero := [.nilFunc], kind := 0, flds := [], elem := 0, len := 0 }
theorem tok165 : TIOk Tryz.prog 165 ti165 := TIOk.of (z := .nilFunc) (by kernel_rfl) Tryz.underlying165 rfl rfl trivial rfl rfl rfl
def ti166 : TI := { size := 1, bytes := 8, agg := false, zero := [.nilFunc], kind := 0, flds := [], elem := 0, len := 0 }
theorem tok166 : TIOk Tryz.prog 166 ti166 := TIOk.of (z := .nilFunc) (by kernel_rfl) Tryz.underlying166 rfl rfl trivial rfl rfl rfl
def ti167 : TI := { size := 1, bytes := 8, agg := false, zero := [.nilFunc], kind := 0, flds := [], elem := 0, len := 0 }
theorem tok167 : TIOk Tryz.prog 167 ti167 := TIOk.of (z := .nilFunc) (by kernel_rfl) Tryz.underlying167 rfl rfl trivial rfl rfl rfl
def ti168 : TI := { size := 12, bytes := 96, agg := true, zero := [.int .i64 0, .int .i64 0, .int .i64 0, .int .i64 0, .int .i64 0, .int .i64 0, .int .i64 0, .int .i64 0, .int .i64 0, .int .i64 0, .int .i64 0, .int .i64 0], kind := 3, flds := [], elem := 3, len := 12 }
theorem tok168 : TIOk Tryz.prog 168 ti168 := TIOk.of (z := .agg #[.int .i64 0, .int .i64 0, .int .i64 0, .int .i64 0, .int .i64 0, .int .i64 0, .int .i64 0, .int .i64 0, .int .i64 0, .int .i64 0, .int .i64 0, .int .i64 0]) (by kernel_rfl) Tryz.underlying168 rfl rfl rfl rfl rfl rfl
def ti169 : TI := { size := 1, bytes := 8, agg := false, zero := [.nilFunc], kind := 0, flds := [], elem := 0, len := 0 }
theorem tok169 : TIOk Tryz.prog 169 ti169 := TIOk.of (z := .nilFunc) (by kernel_rfl) Tryz.underlying169 rfl rfl trivial rfl rfl rfl
def ti170 : TI := { size := 1, bytes := 8, agg := false, zero := [.nilFunc], kind := 0, flds := [], elem := 0, len := 0 }
theorem tok170 : TIOk Tryz.prog 170 ti170 := TIOk.of (z := .nilFunc) (by kernel_rfl) Tryz.underlying170 rfl rfl trivial rfl rfl rfl
def ti171 : TI := { size := 1, bytes := 8, agg := false, zero := [.nilFunc], kind := 0, flds := [], elem := 0, len := 0 }
theorem tok171 : TIOk Tryz.prog 171 ti171 := TIOk.of (z := .nilFunc) (by kernel_rfl) Tryz.underlying171 rfl rfl trivial rfl rfl rfl
def ti172 : TI := { size := 1, bytes := 8, agg := false, zero := [.nilFunc], kind := 0, flds := [], elem := 0, len := 0 }
theorem tok172 : TIOk Tryz.prog 172 ti172 := TIOk.of (z := .nilFunc) (by kernel_rfl) Tryz.underlying172 rfl rfl trivial rfl rfl rfl
def ti173 : TI := { size := 1, bytes := 8, agg := false, zero := [.nilFunc], kind := 0, flds := [], elem := 0, len := 0 }
theorem tok173 : TIOk Tryz.prog 173 ti173 := TIOk.of (z := .nilFunc) (by kernel_rfl) Tryz.underlying173 rfl rfl trivial rfl rfl rfl
def ti174 : TI := { size := 1, bytes := 8, agg := false, zero := [.nilFunc], kind := 0, flds := [], elem := 0, len := 0 }
theorem tok174 : TIOk Tryz.prog 174 ti174 := TIOk.of (z := .nilFunc) (by kernel_rfl) Tryz.underlying174 rfl rfl trivial rfl rfl rfl
def ti175 : TI := { size := 1, bytes := 8, agg := false, zero := [.nilFunc], kind := 0, flds := [], elem := 0, len := 0 }
theorem tok175 : TIOk Tryz.prog 175 ti175 := TIOk.of (z := .nilFunc) (by kernel_rfl) Tryz.underlying175 rfl rfl trivial rfl rfl rfl
def ti176 : TI := { size := 2, bytes := 32, agg := true, zero := [.slice none 0 0, .pointer none], kind := 1, flds := [(0, 29), (1, 81)], elem := 0, len := 0 }
theorem tok176 : TIOk Tryz.prog 176 ti176 := TIOk.of (z := .agg #[.slice none 0 0, .pointer none]) (by kernel_rfl) Tryz.underlying176 rfl rfl ⟨_, rfl, rfl⟩ rfl rfl rfl
def ti177 : TI := { size := 2, bytes := 32, agg := true, zero := [.slice none 0 0, .pointer none], kind := 1, flds := [(0, 29), (1, 81)], elem := 0, len := 0 }
theorem tok177 : TIOk Tryz.prog 177 ti177 := TIOk.of (z := .agg #[.slice none 0 0, .pointer none]) (by kernel_rfl) Tryz.underlying177 rfl rfl ⟨_, rfl, rfl⟩ rfl rfl rfl
def ti178 : TI := { size := 1, bytes := 8, agg := false, zero := [.nilFunc], kind := 0, flds := [], elem := 0, len := 0 }
theorem tok178 : TIOk Tryz.prog 178 ti178 := TIOk.of (z := .nilFunc) (by kernel_rfl) Tryz.underlying178 rfl rfl trivial rfl rfl rfl
def ti179 : TI := { size := 1, bytes := 8, agg := false, zero := [.pointer none], kind := 6, flds := [], elem := 181, len := 0 }
theorem tok179 : TIOk Tryz.prog 179 ti179 := TIOk.of (z := .pointer none) (by kernel_rfl) Tryz.underlying179 rfl rfl rfl rfl rfl rfl
def ti180 : TI := { size := 2, bytes := 32, agg := true, zero := [.int .i64 0, .slice none 0 0], kind := 1, flds := [(0, 3), (1, 150)], elem := 0, len := 0 }
theorem tok180 : TIOk Tryz.prog 180 ti180 := TIOk.of (z := .agg #[.int .i64 0, .slice none 0 0]) (by kernel_rfl) Tryz.underlying180 rfl rfl ⟨_, rfl, rfl⟩ rfl rfl rfl
def ti181 : TI := { size := 2, bytes := 32, agg := true, zero := [.int .i64 0, .slice none 0 0], kind := 1, flds := [(0, 3), (1, 150)], elem := 0, len := 0 }
theorem tok181 : TIOk Tryz.prog 181 ti181 := TIOk.of (z := .agg #[.int .i64 0, .slice none 0 0]) (by kernel_rfl) Tryz.underlying181 rfl rfl ⟨_, rfl, rfl⟩ rfl rfl rfl
def ti182 : TI := { size := 1, bytes := 8, agg := false, zero := [.nilFunc], kind := 0, flds := [], elem := 0, len := 0 }
theorem tok182 : TIOk Tryz.prog 182 ti182 := TIOk.of (z := .nilFunc) (by kernel_rfl) Tryz.underlying182 rfl rfl trivial rfl rfl rfl
def ti183 : TI := { size := 1, bytes := 8, agg := false, zero := [.nilFunc], kind := 0, flds := [], elem := 0, len := 0 }
theorem tok183 : TIOk Tryz.prog 183 ti183 := TIOk.of (z := .nilFunc) (by kernel_rfl) Tryz.underlying183 rfl rfl trivial rfl rfl rfl
def ti184 : TI := { size := 1, bytes := 8, agg := false, zero := [.nilFunc], kind := 0, flds := [], elem := 0, len := 0 }
theorem tok184 : TIOk Tryz.prog 184 ti184 := TIOk.of (z := .nilFunc) (by kernel_rfl) Tryz.underlying184 rfl rfl trivial rfl rfl rfl
def ti185 : TI := { size := 1, bytes := 8, agg := false, zero := [.pointer none], kind := 6, flds := [], elem := 187, len := 0 }
theorem tok185 : TIOk Tryz.prog 185 ti185 := TIOk.of (z := .pointer none) (by kernel_rfl) Tryz.underlying185 rfl rfl rfl rfl rfl rfl
def ti186 : TI := { size := 2, bytes := 16, agg := true, zero := [.pointer none, .pointer none], kind := 1, flds := [(0, 81), (1, 93)], elem := 0, len := 0 }
theorem tok186 : TIOk Tryz.prog 186 ti186 := TIOk.of (z := .agg #[.pointer none, .pointer none]) (by kernel_rfl) Tryz.underlying186 rfl rfl ⟨_, rfl, rfl⟩ rfl rfl rfl
def ti187 : TI := { size := 2, bytes := 16, agg := true, zero := [.pointer none, .pointer none], kind := 1, flds := [(0, 81), (1, 93)], elem := 0, len := 0 }
theorem tok187 : TIOk Tryz.prog 187 ti187 := TIOk.of (z := .agg #[.pointer none, .pointer none]) (by kernel_rfl) Tryz.underlying187 rfl rfl ⟨_, rfl, rfl⟩ rfl rfl rfl
def ti188 : TI := { size := 3, bytes := 32, agg := true, zero := [.int .i64 0, .nilIface, .pointer none], kind := 1, flds := [(0, 3), (1, 94), (2, 93)], elem := 0, len := 0 }
theorem tok188 : TIOk Tryz.prog 188 ti188 := TIOk.of (z := .agg #[.int .i64 0, .nilIface, .pointer none]) (by kernel_rfl) Tryz.underlying188 rfl rfl ⟨_, rfl, rfl⟩ rfl rfl rfl
def ti189 : TI := { size := 3, bytes := 32, agg := true, zero := [.int .i64 0, .nilIface, .pointer none], kind := 1, flds := [(0, 3), (1, 94), (2, 93)], elem := 0, len := 0 }
theorem tok189 : TIOk Tryz.prog 189 ti189 := TIOk.of (z := .agg #[.int .i64 0, .nilIface, .pointer none]) (by kernel_rfl) Tryz.underlying189 rfl rfl ⟨_, rfl, rfl⟩ rfl rfl rfl
def ti190 : TI := { size := 4, bytes := 64, agg := true, zero := [.pointer none, .slice none 0 0, .slice none 0 0, .pointer none], kind := 1, flds := [(0, 81), (1, 29), (2, 103), (3, 81)], elem := 0, len := 0 }
theorem tok190 : TIOk Tryz.prog 190 ti190 := TIOk.of (z := .agg #[.pointer none, .slice none 0 0, .slice none 0 0, .pointer none]) (by kernel_rfl) Tryz.underlying190 rfl rfl ⟨_, rfl, rfl⟩ rfl rfl rfl
def ti191 : TI := { size := 4, bytes := 64, agg := true, zero := [.pointer none, .slice none 0 0, .slice none 0 0, .pointer none], kind := 1, flds := [(0, 81), (1, 29), (2, 103), (3, 81)], elem := 0, len := 0 }
theorem tok191 : TIOk Tryz.prog 191 ti191 := TIOk.of (z := .agg #[.pointer none, .slice none 0 0, .slice none 0 0, .pointer none]) (by kernel_rfl) Tryz.underlying191 rfl rfl ⟨_, rfl, rfl⟩ rfl rfl rfl
def ti193 : TI := { size := 1, bytes := 8, agg := false, zero := [.nilFunc], kind := 0, flds := [], elem := 0, len := 0 }
theorem tok193 : TIOk Tryz.prog 193 ti193 := TIOk.of (z := .nilFunc) (by kernel_rfl) Tryz.underlying193 rfl rfl trivial rfl rfl rfl
def ti194 : TI := { size := 1, bytes := 8, agg := false, zero := [.nilFunc], kind := 0, flds := [], elem := 0, len := 0 }
theorem tok194 : TIOk Tryz.prog 194 ti194 := TIOk.of (z := .nilFunc) (by kernel_rfl) Tryz.underlying194 rfl rfl trivial rfl rfl rfl
def ti195 : TI := { size := 1, bytes := 8, agg := false, zero := [.nilFunc], kind := 0, flds := [], elem := 0, len := 0 }
theorem tok195 : TIOk Tryz.prog 195 ti195 := TIOk.of (z := .nilFunc) (by kernel_rfl) Tryz.underlying195 rfl rfl trivial rfl rfl rfl
def ti196 : TI := { size := 1, bytes := 8, agg := false, zero := [.nilFunc], kind := 0, flds := [], elem := 0, len := 0 }
theorem tok196 : TIOk Tryz.prog 196 ti196 := TIOk.of (z := .nilFunc) (by kernel_rfl) Tryz.underlying196 rfl rfl trivial rfl rfl rfl
def ti197 : TI := { size := 1, bytes := 8, agg := false, zero := [.nilFunc], kind := 0, flds := [], elem := 0, len := 0 }
theorem tok197 : TIOk Tryz.prog 197 ti197 := TIOk.of (z := .nilFunc) (by kernel_rfl) Tryz.underlying197 rfl rfl trivial rfl rfl rfl
def ti198 : TI := { size := 1, bytes := 8, agg := false, zero := [.int .i64 0], kind := 0, flds := [], elem := 0, len := 0 }
theorem tok198 : TIOk Tryz.prog 198 ti198 := TIOk.of (z := .int .i64 0) (by kernel_rfl) Tryz.underlying198 rfl rfl trivial rfl rfl rfl
def ti200 : TI := { size := 1, bytes := 8, agg := false, zero := [.nilFunc], kind := 0, flds := [], elem := 0, len := 0 }
theorem tok200 : TIOk Tryz.prog 200 ti200 := TIOk.of (z := .nilFunc) (by kernel_rfl) Tryz.underlying200 rfl rfl trivial rfl rfl rfl
def ti201 : TI := { size := 1, bytes := 8, agg := false, zero := [.nilFunc], kind := 0, flds := [], elem := 0, len := 0 }
theorem tok201 : TIOk Tryz.prog 201 ti201 := TIOk.of (z := .nilFunc) (by kernel_rfl) Tryz.underlying201 rfl rfl trivial rfl rfl rfl
def ti202 : TI := { size := 1, bytes := 8, agg := false, zero := [.nilFunc], kind := 0, flds := [], elem := 0, len := 0 }
theorem tok202 : TIOk Tryz.prog 202 ti202 := TIOk.of (z := .nilFunc) (by kernel_rfl) Tryz.underlying202 rfl rfl trivial rfl rfl rfl
def ti203 : TI := { size := 1, bytes := 8, agg := false, zero := [.nilFunc], kind := 0, flds := [], elem := 0, len := 0 }
theorem tok203 : TIOk Tryz.prog 203 ti203 := TIOk.of (z := .nilFunc) (by kernel_rfl) Tryz.underlying203 rfl rfl trivial rfl rfl rfl
def ti204 : TI := { size := 1, bytes := 8, agg := false, zero := [.nilFunc], kind := 0, flds := [], elem := 0, len := 0 }
theorem tok204 : TIOk Tryz.prog 204 ti204 := TIOk.of (z := .nilFunc) (by kernel_rfl) Tryz.underlying204 rfl rfl trivial rfl rfl rfl
def ti205 : TI := { size := 1, bytes := 4, agg := false, zero := [.int .u32 0], kind := 0, flds := [], elem := 0, len := 0 }
theorem tok205 : TIOk Tryz.prog 205 ti205 := TIOk.of (z := .int .u32 0) (by kernel_rfl) Tryz.underlying205 rfl rfl trivial rfl rfl rfl
def ti206 : TI := { size := 1, bytes := 8, agg := false, zero := [.nilFunc], kind := 0, flds := [], elem := 0, len := 0 }
theorem tok206 : TIOk Tryz.prog 206 ti206 := TIOk.of (z := .nilFunc) (by kernel_rfl) Tryz.underlying206 rfl rfl trivial rfl rfl rfl
def ti207 : TI := { size := 1, bytes := 8, agg := false, zero := [.int .u64 0], kind := 0, flds := [], elem := 0, len := 0 }
theorem tok207 : TIOk Tryz.prog 207 ti207 := TIOk.of (z := .int .u64 0) (by kernel_rfl) Tryz.underlying207 rfl rfl trivial rfl rfl rfl
def ti208 : TI := { size := 1, bytes := 8, agg := false, zero := [.nilFunc], kind := 0, flds := [], elem := 0, len := 0 }
theorem tok208 : TIOk Tryz.prog 208 ti208 := TIOk.of (z := .nilFunc) (by kernel_rfl) Tryz.underlying208 rfl rfl trivial rfl rfl rfl
def ti209 : TI := { size := 1, bytes := 8, agg := false, zero := [.nilFunc], kind := 0, flds := [], elem := 0, len := 0 }
theorem tok209 : TIOk Tryz.prog 209 ti209 := TIOk.of (z := .nilFunc) (by kernel_rfl) Tryz.underlying209 rfl rfl trivial rfl rfl rfl
def ti211 : TI := { size := 1, bytes := 8, agg := false, zero := [.nilFunc], kind := 0, flds := [], elem := 0, len := 0 }
theorem tok211 : TIOk Tryz.prog 211 ti211 := TIOk.of (z := .nilFunc) (by kernel_rfl) Tryz.underlying211 rfl rfl trivial rfl rfl rfl
def ti212 : TI := { size := 1, bytes := 8, agg := false, zero := [.pointer none], kind := 6, flds := [], elem := 218, len := 0 }
theorem tok212 : TIOk Tryz.prog 212 ti212 := TIOk.of (z := .pointer none) (by kernel_rfl) Tryz.underlying212 rfl rfl rfl rfl rfl rfl
def ti213 : TI := { size := 1, bytes := 8, agg := false, zero := [.nilFunc], kind := 0, flds := [], elem := 0, len := 0 }
theorem tok213 : TIOk Tryz.prog 213 ti213 := TIOk.of (z := .nilFunc) (by kernel_rfl) Tryz.underlying213 rfl rfl trivial rfl rfl rfl
def ti214 : TI := { size := 1, bytes := 8, agg := false, zero := [.nilFunc], kind := 0, flds := [], elem := 0, len := 0 }
theorem tok214 : TIOk Tryz.prog 214 ti214 := TIOk.of (z := .nilFunc) (by kernel_rfl) Tryz.underlying214 rfl rfl trivial rfl rfl rfl
def ti215 : TI := { size := 1, bytes := 8, agg := false, zero := [.nilFunc], kind := 0, flds := [], elem := 0, len := 0 }
theorem tok215 : TIOk Tryz.prog 215 ti215 := TIOk.of (z := .nilFunc) (by kernel_rfl) Tryz.underlying215 rfl rfl trivial rfl rfl rfl
def ti216 : TI := { size := 1, bytes := 24, agg := false, zero := [.slice none 0 0], kind := 2, flds := [], elem := 95, len := 0 }
theorem tok216 : TIOk Tryz.prog 216 ti216 := TIOk.of (z := .slice none 0 0) (by kernel_rfl) Tryz.underlying216 rfl rfl rfl rfl rfl rfl
def ti217 : TI := { size := 1, bytes := 24, agg := true, zero := [.slice none 0 0], kind := 1, flds := [(0, 216)], elem := 0, len := 0 }
theorem tok217 : TIOk Tryz.prog 217 ti217 := TIOk.of (z := .agg #[.slice none 0 0]) (by kernel_rfl) Tryz.underlying217 rfl rfl ⟨_, rfl, rfl⟩ rfl rfl rfl
def ti218 : TI := { size := 1, bytes := 24, agg := true, zero := [.slice none 0 0], kind := 1, flds := [(0, 216)], elem := 0, len := 0 }
theorem tok218 : TIOk Tryz.prog 218 ti218 := TIOk.of (z := .agg #[.slice none 0 0]) (by kernel_rfl) Tryz.underlying218 rfl rfl ⟨_, rfl, rfl⟩ rfl rfl rfl
def ti220 : TI := { size := 1, bytes := 8, agg := false, zero := [.nilFunc], kind := 0, flds := [], elem := 0, len := 0 }
theorem tok220 : TIOk Tryz.prog 220 ti220 := TIOk.of (z := .nilFunc) (by kernel_rfl) Tryz.underlying220 rfl rfl trivial rfl rfl rfl
def ti221 : TI := { size := 1, bytes := 8, agg := false, zero := [.pointer none], kind := 6, flds := [], elem := 223, len := 0 }
theorem tok221 : TIOk Tryz.prog 221 ti221 := TIOk.of (z := .pointer none) (by kernel_rfl) Tryz.underlying221 rfl rfl rfl rfl rfl rfl
def ti222 : TI := { size := 2, bytes := 48, agg := true, zero := [.slice none 0 0, .slice none 0 0], kind := 1, flds := [(0, 29), (1, 150)], elem := 0, len := 0 }
theorem tok222 : TIOk Tryz.prog 222 ti222 := TIOk.of (z := .agg #[.slice none 0 0, .slice none 0 0]) (by kernel_rfl) Tryz.underlying222 rfl rfl ⟨_, rfl, rfl⟩ rfl rfl rfl
def ti223 : TI := { size := 2, bytes := 48, agg := true, zero := [.slice none 0 0, .slice none 0 0], kind := 1, flds := [(0, 29), (1, 150)], elem := 0, len := 0 }
theorem tok223 : TIOk Tryz.prog 223 ti223 := TIOk.of (z := .agg #[.slice none 0 0, .slice none 0 0]) (by kernel_rfl) Tryz.underlying223 rfl rfl ⟨_, rfl, rfl⟩ rfl rfl rfl
def ti224 : TI := { size := 1, bytes := 8, agg := false, zero := [.nilFunc], kind := 0, flds := [], elem := 0, len := 0 }
theorem tok224 : TIOk Tryz.prog 224 ti224 := TIOk.of (z := .nilFunc) (by kernel_rfl) Tryz.underlying224 rfl rfl trivial rfl rfl rfl
def ti225 : TI := { size := 1, bytes := 8, agg := false, zero := [.nilFunc], kind := 0, flds := [], elem := 0, len := 0 }
theorem tok225 : TIOk Tryz.prog 225 ti225 := TIOk.of (z := .nilFunc) (by kernel_rfl) Tryz.underlying225 rfl rfl trivial rfl rfl rfl
def ti226 : TI := { size := 1, bytes := 8, agg := false, zero := [.nilFunc], kind := 0, flds := [], elem := 0, len := 0 }
theorem tok226 : TIOk Tryz.prog 226 ti226 := TIOk.of (z := .nilFunc) (by kernel_rfl) Tryz.underlying226 rfl rfl trivial rfl rfl rfl
def ti227 : TI := { size := 1, bytes := 8, agg := false, zero := [.int .u64 0], kind := 0, flds := [], elem := 0, len := 0 }
theorem tok227 : TIOk Tryz.prog 227 ti227 := TIOk.of (z := .int .u64 0) (by kernel_rfl) Tryz.underlying227 rfl rfl trivial rfl rfl rfl
def ti228 : TI := { size := 1, bytes := 8, agg := false, zero := [.nilFunc], kind := 0, flds := [], elem := 0, len := 0 }
theorem tok228 : TIOk Tryz.prog 228 ti228 := TIOk.of (z := .nilFunc) (by kernel_rfl) Tryz.underlying228 rfl rfl trivial rfl rfl rfl
def ti229 : TI := { size := 1, bytes := 8, agg := false, zero := [.nilFunc], kind := 0, flds := [], elem := 0, len := 0 }
theorem tok229 : TIOk Tryz.prog 229 ti229 := TIOk.of (z := .nilFunc) (by kernel_rfl) Tryz.underlying229 rfl rfl trivial rfl rfl rfl
def ti230 : TI := { size := 1, bytes := 8, agg := false, zero := [.nilFunc], kind := 0, flds := [], elem := 0, len := 0 }
theorem tok230 : TIOk Tryz.prog 230 ti230 := TIOk.of (z := .nilFunc) (by kernel_rfl) Tryz.underlying230 rfl rfl trivial rfl rfl rfl
def ti231 : TI := { size := 1, bytes := 8, agg := false, zero := [.pointer none], kind := 6, flds := [], elem := 3, len := 0 }
theorem tok231 : TIOk Tryz.prog 231 ti231 := TIOk.of (z := .pointer none) (by kernel_rfl) Tryz.underlying231 rfl rfl rfl rfl rfl rfl
def ti232 : TI := { size := 1, bytes := 8, agg := false, zero := [.nilFunc], kind := 0, flds := [], elem := 0, len := 0 }
theorem tok232 : TIOk Tryz.prog 232 ti232 := TIOk.of (z := .nilFunc) (by kernel_rfl) Tryz.underlying232 rfl rfl trivial rfl rfl rfl
def ti233 : TI := { size := 1, bytes := 8, agg := false, zero := [.nilFunc], kind := 0, flds := [], elem := 0, len := 0 }
theorem tok233 : TIOk Tryz.prog 233 ti233 := TIOk.of (z := .nilFunc) (by kernel_rfl) Tryz.underlying233 rfl rfl trivial rfl rfl rfl
def ti234 : TI := { size := 1, bytes := 24, agg := false, zero := [.slice none 0 0], kind := 2, flds := [], elem := 150, len := 0 }
theorem tok234 : TIOk Tryz.prog 234 ti234 := TIOk.of (z := .slice none 0 0) (by kernel_rfl) Tryz.underlying234 rfl rfl rfl rfl rfl rfl
def ti235 : TI := { size := 1, bytes := 8, agg := false, zero := [.nilFunc], kind := 0, flds := [], elem := 0, len := 0 }
theorem tok235 : TIOk Tryz.prog 235 ti235 := TIOk.of (z := .nilFunc) (by kernel_rfl) Tryz.underlying235 rfl rfl trivial rfl rfl rfl
def ti236 : TI := { size := 1, bytes := 8, agg := false, zero := [.nilFunc], kind := 0, flds := [], elem := 0, len := 0 }
theorem tok236 : TIOk Tryz.prog 236 ti236 := TIOk.of (z := .nilFunc) (by kernel_rfl) Tryz.underlying236 rfl rfl trivial rfl rfl rfl
def ti238 : TI := { size := 1, bytes := 8, agg := false, zero := [.nilFunc], kind := 0, flds := [], elem := 0, len := 0 }
theorem tok238 : TIOk Tryz.prog 238 ti238 := TIOk.of (z := .nilFunc) (by kernel_rfl) Tryz.underlying238 rfl rfl trivial rfl rfl rfl
def ti239 : TI := { size := 1, bytes := 8, agg := false, zero := [.nilFunc], kind := 0, flds := [], elem := 0, len := 0 }
theorem tok239 : TIOk Tryz.prog 239 ti239 := TIOk.of (z := .nilFunc) (by kernel_rfl) Tryz.underlying239 rfl rfl trivial rfl rfl rfl
def ti240 : TI := { size := 1, bytes := 8, agg := false, zero := [.nilFunc], kind := 0, flds := [], elem := 0, len := 0 }
theorem tok240 : TIOk Tryz.prog 240 ti240 := TIOk.of (z := .nilFunc) (by kernel_rfl) Tryz.underlying240 rfl rfl trivial rfl rfl rfl
def ti242 : TI := { size := 1, bytes := 8, agg := false, zero := [.nilFunc], kind := 0, flds := [], elem := 0, len := 0 }
theorem tok242 : TIOk Tryz.prog 242 ti242 := TIOk.of (z := .nilFunc) (by kernel_rfl) Tryz.underlying242 rfl rfl trivial rfl rfl rfl
def ti243 : TI := { size := 1, bytes := 8, agg := false, zero := [.nilFunc], kind := 0, flds := [], elem := 0, len := 0 }
theorem tok243 : TIOk Tryz.prog 243 ti243 := TIOk.of (z := .nilFunc) (by kernel_rfl) Tryz.underlying243 rfl rfl trivial rfl rfl rfl
def ti244 : TI := { size := 1, bytes := 8, agg := false, zero := [.pointer none], kind := 6, flds := [], elem := 227, len := 0 }
theorem tok244 : TIOk Tryz.prog 244 ti244 := TIOk.of (z := .pointer none) (by kernel_rfl) Tryz.underlying244 rfl rfl rfl rfl rfl rfl
def ti245 : TI := { size := 1, bytes := 8, agg := false, zero := [.nilFunc], kind := 0, flds := [], elem := 0, len := 0 }
theorem tok245 : TIOk Tryz.prog 245 ti245 := TIOk.of (z := .nilFunc) (by kernel_rfl) Tryz.underlying245 rfl rfl trivial rfl rfl rfl
def ti246 : TI := { size := 1, bytes := 8, agg := false, zero := [.pointer none], kind := 6, flds := [], elem := 248, len := 0 }
theorem tok246 : TIOk Tryz.prog 246 ti246 := TIOk.of (z := .pointer none) (by kernel_rfl) Tryz.underlying246 rfl rfl rfl rfl rfl rfl
def ti247 : TI := { size := 1, bytes := 24, agg := true, zero := [.slice none 0 0], kind := 1, flds := [(0, 150)], elem := 0, len := 0 }
theorem tok247 : TIOk Tryz.prog 247 ti247 := TIOk.of (z := .agg #[.slice none 0 0]) (by kernel_rfl) Tryz.underlying247 rfl rfl ⟨_, rfl, rfl⟩ rfl rfl rfl
def ti248 : TI := { size := 1, bytes := 24, agg := true, zero := [.slice none 0 0], kind := 1, flds := [(0, 150)], elem := 0, len := 0 }
theorem tok248 : TIOk Tryz.prog 248 ti248 := TIOk.of (z := .agg #[.slice none 0 0]) (by kernel_rfl) Tryz.underlying248 rfl rfl ⟨_, rfl, rfl⟩ rfl rfl rfl
def ti249 : TI := { size := 1, bytes := 8, agg := false, zero := [.nilFunc], kind := 0, flds := [], elem := 0, len := 0 }
theorem tok249 : TIOk Tryz.prog 249 ti249 := TIOk.of (z := .nilFunc) (by kernel_rfl) Tryz.underlying249 rfl rfl trivial rfl rfl rfl
def ti250 : TI := { size := 1, bytes := 8, agg := false, zero := [.nilFunc], kind := 0, flds := [], elem := 0, len := 0 }
theorem tok250 : TIOk Tryz.prog 250 ti250 := TIOk.of (z := .nilFunc) (by kernel_rfl) Tryz.underlying250 rfl rfl trivial rfl rfl rfl
def ti251 : TI := { size := 1, bytes := 8, agg := false, zero := [.nilFunc], kind := 0, flds := [], elem := 0, len := 0 }
theorem tok251 : TIOk Tryz.prog 251 ti251 := TIOk.of (z := .nilFunc) (by kernel_rfl) Tryz.underlying251 rfl rfl trivial rfl rfl rfl
def ti252 : TI := { size := 1, bytes := 8, agg := false, zero := [.nilFunc], kind := 0, flds := [], elem := 0, len := 0 }
theorem tok252 : TIOk Tryz.prog 252 ti252 := TIOk.of (z := .nilFunc) (by kernel_rfl) Tryz.underlying252 rfl rfl trivial rfl rfl rfl
def ti254 : TI := { size := 1, bytes := 8, agg := false, zero := [.nilFunc], kind := 0, flds := [], elem := 0, len := 0 }
theorem tok254 : TIOk Tryz.prog 254 ti254 := TIOk.of (z := .nilFunc) (by kernel_rfl) Tryz.underlying254 rfl rfl trivial rfl rfl rfl
def ti257 : TI := { size := 1, bytes := 8, agg := false, zero := [.nilFunc], kind := 0, flds := [], elem := 0, len := 0 }
theorem tok257 : TIOk Tryz.prog 257 ti257 := TIOk.of (z := .nilFunc) (by kernel_rfl) Tryz.underlying257 rfl rfl trivial rfl rfl rfl
def ti259 : TI := { size := 1, bytes := 8, agg := false, zero := [.nilFunc], kind := 0, flds := [], elem := 0, len := 0 }
theorem tok259 : TIOk Tryz.prog 259 ti259 := TIOk.of (z := .nilFunc) (by kernel_rfl) Tryz.underlying259 rfl rfl trivial rfl rfl rfl
def ti260 : TI := { size := 1, bytes := 8, agg := false, zero := [.nilFunc], kind := 0, flds := [], elem := 0, len := 0 }
theorem tok260 : TIOk Tryz.prog 260 ti260 := TIOk.of (z := .nilFunc) (by kernel_rfl) Tryz.underlying260 rfl rfl trivial rfl rfl rfl
def ti261 : TI := { size := 1, bytes := 8, agg := false, zero := [.nilFunc], kind := 0, flds := [], elem := 0, len := 0 }
theorem tok261 : TIOk Tryz.prog 261 ti261 := TIOk.of (z := .nilFunc) (by kernel_rfl) Tryz.underlying261 rfl rfl trivial rfl rfl rfl
def ti262 : TI := { size := 4, bytes := 40, agg := true, zero := [.pointer none, .pointer none, .pointer none, .string ⟨#[]⟩], kind := 1, flds := [(0, 17), (1, 17), (2, 17), (3, 9)], elem := 0, len := 0 }
theorem tok262 : TIOk Tryz.prog 262 ti262 := TIOk.of (z := .agg #[.pointer none, .pointer none, .pointer none, .string ⟨#[]⟩]) (by kernel_rfl) Tryz.underlying262 rfl rfl ⟨_, rfl, rfl⟩ rfl rfl rfl
def ti263 : TI := { size := 4, bytes := 40, agg := true, zero := [.pointer none, .pointer none, .pointer none, .string ⟨#[]⟩], kind := 1, flds := [(0, 17), (1, 17), (2, 17), (3, 9)], elem := 0, len := 0 }
theorem tok263 : TIOk Tryz.prog 263 ti263 := TIOk.of (z := .agg #[.pointer none, .pointer none, .pointer none, .string ⟨#[]⟩]) (by kernel_rfl) Tryz.underlying263 rfl rfl ⟨_, rfl, rfl⟩ rfl rfl rfl
def ti267 : TI := { size := 1, bytes := 8, agg := false, zero := [.nilFunc], kind := 0, flds := [], elem := 0, len := 0 }
theorem tok267 : TIOk Tryz.prog 267 ti267 := TIOk.of (z := .nilFunc) (by kernel_rfl) Tryz.underlying267 rfl rfl trivial rfl rfl rfl
def ti268 : TI := { size := 1, bytes := 1, agg := false, zero := [.int .u8 0], kind := 0, flds := [], elem := 0, len := 0 }
theorem tok268 : TIOk Tryz.prog 268 ti268 := TIOk.of (z := .int .u8 0) (by kernel_rfl) Tryz.underlying268 rfl rfl trivial rfl rfl rfl
def ti269 : TI := { size := 1, bytes := 1, agg := false, zero := [.int .u8 0], kind := 0, flds := [], elem := 0, len := 0 }
theorem tok269 : TIOk Tryz.prog 269 ti269 := TIOk.of (z := .int .u8 0) (by kernel_rfl) Tryz.underlying269 rfl rfl trivial rfl rfl rfl
def ti270 : TI := { size := 1, bytes := 8, agg := false, zero := [.nilFunc], kind := 0, flds := [], elem := 0, len := 0 }
theorem tok270 : TIOk Tryz.prog 270 ti270 := TIOk.of (z := .nilFunc) (by kernel_rfl) Tryz.underlying270 rfl rfl trivial rfl rfl rfl
def ti271 : TI := { size := 1, bytes := 8, agg := false, zero := [.pointer none], kind := 6, flds := [], elem := 5, len := 0 }
theorem tok271 : TIOk Tryz.prog 271 ti271 := TIOk.of (z := .pointer none) (by kernel_rfl) Tryz.underlying271 rfl rfl rfl rfl rfl rfl
def ti272 : TI := { size := 1, bytes := 4, agg := false, zero := [.int .i32 0], kind := 0, flds := [], elem := 0, len := 0 }
theorem tok272 : TIOk Tryz.prog 272 ti272 := TIOk.of (z := .int .i32 0) (by kernel_rfl) Tryz.underlying272 rfl rfl trivial rfl rfl rfl
def ti273 : TI := { size := 1, bytes := 4, agg := false, zero := [.int .i32 0], kind := 0, flds := [], elem := 0, len := 0 }
theorem tok273 : TIOk Tryz.prog 273 ti273 := TIOk.of (z := .int .i32 0) (by kernel_rfl) Tryz.underlying273 rfl rfl trivial rfl rfl rfl
def ti274 : TI := { size := 11, bytes := 48, agg := true, zero := [.int .u64 0, .int .u64 0, .int .u32 0, .int .u8 0, .int .u8 0, .int .u8 0, .int .u8 0, .nilFunc, .pointer none, .int .i32 0, .int .i32 0], kind := 1, flds := [(0, 12), (1, 12), (2, 205), (3, 268), (4, 5), (5, 5), (6, 269), (7, 270), (8, 271), (9, 272), (10, 273)], elem := 0, len := 0 }
theorem tok274 : TIOk Tryz.prog 274 ti274 := TIOk.of (z := .agg #[.int .u64 0, .int .u64 0, .int .u32 0, .int .u8 0, .int .u8 0, .int .u8 0, .int .u8 0, .nilFunc, .pointer none, .int .i32 0, .int .i32 0]) (by kernel_rfl) Tryz.underlying274 rfl rfl ⟨_, rfl, rfl⟩ rfl rfl rfl
def ti275 : TI := { size := 11, bytes := 48, agg := true, zero := [.int .u64 0, .int .u64 0, .int .u32 0, .int .u8 0, .int .u8 0, .int .u8 0, .int .u8 0, .nilFunc, .pointer none, .int .i32 0, .int .i32 0], kind := 1, flds := [(0, 12), (1, 12), (2, 205), (3, 268), (4, 5), (5, 5), (6, 269), (7, 270), (8, 271), (9, 272), (10, 273)], elem := 0, len := 0 }
theorem tok275 : TIOk Tryz.prog 275 ti275 := TIOk.of (z := .agg #[.int .u64 0, .int .u64 0, .int .u32 0, .int .u8 0, .int .u8 0, .int .u8 0, .int .u8 0, .nilFunc, .pointer none, .int .i32 0, .int .i32 0]) (by kernel_rfl) Tryz.underlying275 rfl rfl ⟨_, rfl, rfl⟩ rfl rfl rfl
def tab : Tab := [(1, ti1), (2, ti2), (3, ti3), (4, ti4), (5, ti5), (6, ti6), (7, ti7), (8, ti8), (9, ti9), (10, ti10), (11, ti11), (12, ti12), (13, ti13), (14, ti14), (15, ti15), (16, ti16), (17, ti17), (18, ti18), (19, ti19), (20, ti20), (21, ti21), (22, ti22), (23, ti23), (24, ti24), (25, ti25), (26, ti26), (27, ti27), (28, ti28), (29, ti29), (30, ti30), (31, ti31), (32, ti32), (33, ti33), (35, ti35), (36, ti36), (37, ti37), (38, ti38), (39, ti39), (40, ti40), (41, ti41), (42, ti42), (43, ti43), (44, ti44), (45, ti45), (46, ti46), (47, ti47), (48, ti48), (49, ti49), (51, ti51), (52, ti52), (53, ti53), (54, ti54), (55, ti55), (56, ti56), (57, ti57), (58, ti58), (59, ti59), (60, ti60), (61, ti61), (62, ti62), (63, ti63), (65, ti65), (67, ti67), (68, ti68), (69, ti69), (71, ti71), (72, ti72), (73, ti73), (74, ti74), (75, ti75), (76, ti76), (77, ti77), (78, ti78), (79, ti79), (80, ti80), (81, ti81), (82, ti82), (84, ti84), (85, ti85), (86, ti86), (88, ti88), (89, ti89), (90, ti90), (91, ti91), (92, ti92), (93, ti93), (94, ti94), (95, ti95), (96, ti96), (97, ti97), (98, ti98), (99, ti99), (100, ti100), (101, ti101), (102, ti102), (103, ti103), (104, ti104), (105, ti105), (106, ti106), (107, ti107), (108, ti108), (109, ti109), (110, ti110), (111, ti111), (112, ti112), (113, ti113), (114, ti114), (115, ti115), (116, ti116), (117, ti117), (118, ti118), (119, ti119), (120, ti120), (121, ti121), (122, ti122), (123, ti123), (124, ti124), (125, ti125), (126, ti126), (127, ti127), (128, ti128), (129, ti129), (131, ti131), (132, ti132), (134, ti134), (135, ti135), (136, ti136), (137, ti137), (138, ti138), (139, ti139), (140, ti140), (143, ti143), (144, ti144), (145, ti145), (146, ti146), (147, ti147), (148, ti148), (149, ti149), (150, ti150), (151, ti151), (152, ti152), (153, ti153), (154, ti154), (155, ti155), (156, ti156), (157, ti157), (158, ti158), (159, ti159), (160, ti160), (161, ti161), (162, ti162), (163, ti163), (164, ti164), (165, ti165), (166, ti166), (167, ti167), (168, ti168), (169, ti169), (170, ti170), (171, ti171), (172, ti172), (173, ti173), (174, ti174), (175, ti175), (176, ti176), (177, ti177), (178, ti178), (179, ti179), (180, ti180), (181, ti181), (182, ti182), (183, ti183), (184, ti184), (185, ti185), (186, ti186), (187, ti187), (188, ti188), (189, ti189), (190, ti190), (191, ti191), (193, ti193), (194, ti194), (195, ti195), (196, ti196), (197, ti197), (198, ti198), (200, ti200), (201, ti201), (202, ti202), (203, ti203), (204, ti204), (205, ti205), (206, ti206), (207, ti207), (208, ti208), (209, ti209), (211, ti211), (212, ti212), (213, ti213), (214, ti214), (215, ti215), (216, ti216), (217, ti217), (218, ti218), (220, ti220), (221, ti221), (222, ti222), (223, ti223), (224, ti224), (225, ti225), (226, ti226), (227, ti227), (228, ti228), (229, ti229), (230, ti230), (231, ti231), (232, ti232), (233, ti233), (234, ti234), (235, ti235), (236, ti236), (238, ti238), (239, ti239), (240, ti240), (242, ti242), (243, ti243), (244, ti244), (245, ti245), (246, ti246), (247, ti247), (248, ti248), (249, ti249), (250, ti250), (251, ti251), (252, ti252), (254, ti254), (257, ti257), (259, ti259), (260, ti260), (261, ti261), (262, ti262), (263, ti263), (267, ti267), (268, ti268), (269, ti269), (270, ti270), (271, ti271), (272, ti272), (273, ti273), (274, ti274), (275, ti275)]
set_option maxRecDepth 20000 in
theorem tabOk : TabOk Tryz.prog tab := TabOk.of (by
 simp only [tab, List.forall_mem_cons]
 exact ⟨tok1, tok2, tok3, tok4, tok5, tok6, tok7, tok8, tok9, tok10, tok11, tok12, tok13, tok14, tok15, tok16, tok17, tok18, tok19, tok20, tok21, tok22, tok23, tok24, tok25, tok26, tok27, tok28, tok29, tok30, tok31, tok32, tok33, tok35, tok36, tok37, tok38, tok39, tok40, tok41, tok42, tok43, tok44, tok45, tok46, tok47, tok48, tok49, tok51, tok52, tok53, tok54, tok55, tok56, tok57, tok58, tok59, tok60, tok61, tok62, tok63, tok65, tok67, tok68, tok69, tok71, tok72, tok73, tok74, tok75, tok76, tok77, tok78, tok79, tok80, tok81, tok82, tok84, tok85, tok86, tok88, tok89, tok90, tok91, tok92, tok93, tok94, tok95, tok96, tok97, tok98, tok99, tok100, tok101, tok102, tok103, tok104, tok105, tok106, tok107, tok108, tok109, tok110, tok111, tok112, tok113, tok114, tok115, tok116, tok117, tok118, tok119, tok120, tok121, tok122, tok123, tok124, tok125, tok126, tok127, tok128, tok129, tok131, tok132, tok134, tok135, tok136, tok137, tok138, tok139, tok140, tok143, tok144, tok145, tok146, tok147, tok148, tok149, tok150, tok151, tok152, tok153, tok154, tok155, tok156, tok157, tok158, tok159, tok160, tok161, tok162, tok163, tok164, tok165, tok166, tok167, tok168, tok169, tok170, tok171, tok172, tok173, tok174, tok175, tok176, tok177, tok178, tok179, tok180, tok181, tok182, tok183, tok184, tok185, tok186, tok187, tok188, tok189, tok190, tok191, tok193, tok194, tok195, tok196, tok197, tok198, tok200, tok201, tok202, tok203, tok204, tok205, tok206, tok207, tok208, tok209, tok211, tok212, tok213, tok214, tok215, tok216, tok217, tok218, tok220, tok221, tok222, tok223, tok224, tok225, tok226, tok227, tok228, tok229, tok230, tok231, tok232, tok233, tok234, tok235, tok236, tok238, tok239, tok240, tok242, tok243, tok244, tok245, tok246, tok247, tok248, tok249, tok250, tok251, tok252, tok254, tok257, tok259, tok260, tok261, tok262, tok263, tok267, tok268, tok269, tok270, tok271, tok272, tok273, tok274, tok275, fun _ h => by cases h⟩)
end Go.Proofs.YtpaonemmbhbgoaaGreatDoor
namespace Go.Abs
section
variable {E : Env} {o : Oper} {fr : Fr} {σ : St}
theorem RV.replicate {w : World} {C : Ctx} {c : AC} {v : Value} (h : R w C c v) : ∀ n : Nat, RV w C (List.replicate n c) (List.replicate n v)
 | 0 => by simp [RV]
 | n + 1 => ⟨v, List.replicate n v, by simp [List.replicate_succ], h, RV.replicate h n⟩
theorem AStep.makeArr {t : TypeId} {ti tj : TI} {x y : Operand} {n : Nat} {z : Value} (hT : TabOk E.P E.T) (ho : o.op = .makeSlice t x y) (ht : Tab.get t E.T = some ti) (hk : Nat.beq ti.kind 2 = true) (hj : Tab.get ti.elem E.T = some tj) (hs : Nat.beq tj.size 1 = true) (hz : tj.zero = [z])
   (hx : aEval E.Γ fr x = some (.one (.lit (.int .i64 n)))) (hy : aEval E.Γ fr y = some (.one (.lit (.int .i64 n)))) (hb : tj.bytes * n ≤ 281474976710656) (hn : n ≤ 281474976710656) :
   AStep E o fr σ (.one (.arr (.l σ.n) 1 0 n n)) (σ.push (.cells (List.replicate n (.lit z)))) := by
 intro F w C tmps hi hf next Q hk2
 have e1 := aEval_ok (a := ⟨tmps, E.ds⟩) hi hf hx
 have e2 := aEval_ok (a := ⟨tmps, E.ds⟩) hi hf hy
 simp only [RF, R] at e1 e2
 have hs' : tj.size = 1 := Nat.eq_of_beq_eq_true hs
 have hsl := (hT t ti ht).slice (Nat.eq_of_beq_eq_true hk)
 have htj := hT _ _ hj
 obtain ⟨i, d, z', h1, h2, h3, h4, h5, h6, h7, h8⟩ := htj.ex
 have hone : z.oneCell' = true := by have := htj.one; rw [hz] at this; simpa using this
 have hbi : (i.bytes : Int) * (n : Int) ≤ 281474976710656 := by
   rw [h4]
   have h : ((tj.bytes * n : Nat) : Int) ≤ 281474976710656 := by omega
   rwa [Int.natCast_mul] at h
 have hr := run_make (P := E.P) w t ti.elem i z' hsl h1 h5 .i64 .i64 n n (by omega) (Int.le_refl _) hbi (by omega)
 have hcells : madeCells z'.cells ((n : Int).toNat * i.size) = (List.replicate n z).toArray := by
   rw [h3, hs']
   have : z'.cells = #[z] := by apply Array.ext'; rw [h6, hz]
   rw [this]
   apply Array.ext'
   simp [madeCells, Nat.mod_one]
   rw [List.map_const']; simp
 rw [hcells] at hr
 obtain ⟨C', he, hno, hnp, hin, hok, hblk⟩ := hi.newObj (cs := List.replicate n (.lit z)) (xs := List.replicate n z) (RV.replicate (by simp only [R]; exact ⟨trivial, hone⟩) n) ti.elem
 have hrun : (execOp (Act.eval ⟨tmps, E.ds⟩) o).run E.P w = .ok (.value (.slice (some ⟨w.heap.size, 0, none⟩) n n)) (w.alloc (.cells (List.replicate n z).toArray ti.elem)) := by
   unfold execOp
   simp only [ho, e1.1, e2.1, Sem.run_bind, hr, Result.andThen_ok]
   simp
 unfold Oper.wp
 rw [hrun, Oper.upon_value]
 exact hk2 _ _ C' ⟨Stp.alloc hi.base _ _, he, Nat.le_of_eq hno.symm, hnp⟩ hin (by simp only [RF, R]; exact ⟨hok, by rw [hblk, Nat.zero_mul], Nat.le_refl _⟩)
theorem AStep.idxOwn {t : TypeId} {ti tj : TI} {x i : Operand} {k : IntKind} {j : Id} {s off len cap : Nat} {n : Nat} (hT : TabOk E.P E.T) (ho : o.op = .indexAddr t x i) (ht : Tab.get t E.T = some ti) (hk : Nat.beq ti.kind 2 = true) (hj : Tab.get ti.elem E.T = some tj) (hs : Nat.beq tj.size s = true)
   (hx : aEval E.Γ fr x = some (.one (.arr j s off len cap))) (hi' : aEval E.Γ fr i = some (.one (.lit (.int k n)))) (hn : n < len) : AStep E o fr σ (.one (.ptr j (off * s + n * s))) σ := by
 refine AStep.quiet fun F w C tmps hi hf => ?_
 have h1 := aEval_ok (a := ⟨tmps, E.ds⟩) hi hf hx
 have h2 := aEval_ok (a := ⟨tmps, E.ds⟩) hi hf hi'
 have hsz := (hT _ _ hj).run_sizeOf w
 have hsl := (hT t ti ht).slice (Nat.eq_of_beq_eq_true hk)
 have hs' : tj.size = s := Nat.eq_of_beq_eq_true hs
 simp only [RF, R] at h1 h2
 obtain ⟨hok, hx1, hc⟩ := h1
 have hlt' : (n : Int) < len := by omega
 refine ⟨.pointer (some ((⟨C.blk j, off * s, none⟩ : Addr).add (n * s))), ?_, hok, ?_⟩
 · unfold execOp
   simp only [ho, hx1, h2.1]
   simp [Instr.indexAt, asIntOf, run_underlying hsl, hlt', hn, hsz, hs']
 · rw [Addr.add_none rfl]
theorem AStep.loadOwn {t : TypeId} {ti : TI} {x : Operand} {j : Id} {off : Nat} {cs : List AC} {c : AC} (hT : TabOk E.P E.T) (ho : o.op = .load t x) (ht : Tab.get t E.T = some ti) (ha : ti.agg = false) (hs : Nat.beq ti.size 1 = true) (hx : aEval E.Γ fr x = some (.one (.ptr j off)))
   (hg : σ.get j = some (.cells cs)) (hc : cs[off]? = some c) : AStep E o fr σ (.one c) σ := by
 refine AStep.ofOp hT ?_
 have hs' : ti.size = 1 := Nat.eq_of_beq_eq_true hs
 have hlt : off < cs.length := (List.getElem?_eq_some_iff.1 hc).1
 have e1 : (cs.drop off).take 1 = [c] := by
   rw [List.drop_eq_getElem_cons hlt]
   simp [(List.getElem?_eq_some_iff.1 hc).2]
 have hb : Nat.ble (off + 1) cs.length = true := Nat.ble_eq ▸ (show off + 1 ≤ cs.length by omega)
 simp only [ho, aOp, ht, ha, hs', hx, aLoad, hg, hb, cond_true, forceK_eq, e1, mkFV]
 rfl
theorem AStep.storeOwn {t : TypeId} {ti : TI} {x y : Operand} {j : Id} {off : Nat} {cs : List AC} {c : AC} (hT : TabOk E.P E.T) (ho : o.op = .store t x y) (ht : Tab.get t E.T = some ti) (hs : Nat.beq ti.size 1 = true) (hx : aEval E.Γ fr x = some (.one (.ptr j off)))
   (hy : aEval E.Γ fr y = some (.one c)) (hg : σ.get j = some (.cells cs)) (hlt : off < cs.length) : aOp E.T E.Γ o.op fr σ = some (none, σ.set j (.cells (cs.set off c))) := by
 have hs' : ti.size = 1 := Nat.eq_of_beq_eq_true hs
 have hb : Nat.ble (off + 1) cs.length = true := Nat.ble_eq ▸ (show off + 1 ≤ cs.length by omega)
 have ov : ∀ (xs : List AC) (n : Nat), n < xs.length → over xs n [c] = xs.set n c := by
   intro xs
   induction xs with
   | nil => intro n h; simp at h
   | cons a xs ih =>
     intro n h
     cases n with
     | zero => cases xs <;> simp [over]
     | succ n => simp only [over, List.set_cons_succ]; rw [ih n (by simpa using h)]
 simp only [ho, aOp, ht, hx, hy, aStore, hg, FV.cells, hs', hb, List.length_singleton, beq_self, cond_true, Bool.and_self, forceK_eq, ov cs off hlt]
end
theorem AOps.storeOwn {E : Env} {ops : Array Oper} {rest : List Oper} {o : Oper} {K : Cont} {fr : Fr} {σ : St} {t : TypeId} {ti : TI} {x y : Operand} {j : Id} {off : Nat} {cs : List AC} {c : AC} (hT : TabOk E.P E.T) (hgd : o.guard = none) (hd : o.dst = none) (ho : o.op = .store t x y) (ht : Tab.get t E.T = some ti) (hs : Nat.beq ti.size 1 = true) (hx : aEval E.Γ fr x = some (.one (.ptr j off)))
   (hy : aEval E.Γ fr y = some (.one c)) (hg : σ.get j = some (.cells cs)) (hlt : off < cs.length) (h : AOps E ops rest K fr (σ.set j (.cells (cs.set off c)))) : AOps E ops (o :: rest) K fr σ :=
 AOps.store hT hgd hd (AStep.storeOwn hT ho ht hs hx hy hg hlt) h
end Go.Abs
namespace Go.Abs
def vec (s : Nat) (es : List (List AC)) (cap : Nat) : List AC := es.flatten ++ List.replicate ((cap - es.length) * s) .any
inductive BaseO (σ : St) : AC → Nat → List (List AC) → Nat → St → Prop
 | nil (s : Nat) : BaseO σ (.lit (.slice none 0 0)) s [] 0 σ
 | own (s cap : Nat) (es : List (List AC)) (i : Id) (h : σ.get i = some (.cells (vec s es cap))) (hl : ∀ x ∈ es, x.length = s) (hn : es.length ≤ cap) : BaseO σ (.arr i s 0 es.length cap) s es cap (σ.set i .dead)
theorem zeroCells_one {z : Array Value} (h : z.toList.all Value.oneCell' = true) (hp : z.size ≠ 0) (n : Nat) : ∀ x ∈ (Builtin.zeroCells z n).toList, x.oneCell' = true := by
 intro x hx
 simp only [Builtin.zeroCells, Array.toList_map, List.mem_map] at hx
 obtain ⟨i, _, rfl⟩ := hx
 have hlt : i % z.size < z.size := Nat.mod_lt _ (by omega)
 rw [getElem!_pos z _ hlt]
 exact List.all_eq_true.1 h _ (by simp)
theorem RV.anys {w : World} {C : Ctx} : ∀ (l : List Value), (∀ x ∈ l, x.oneCell' = true) → RV w C (List.replicate l.length .any) l
 | [], _ => by simp [RV]
 | x :: l, h => ⟨x, l, rfl, h x (by simp), RV.anys l fun y hy => h y (by simp [hy])⟩
theorem RV.toAny {w : World} {C : Ctx} {cs : List AC} {l : List Value} (h : RV w C cs l) : RV w C (List.replicate cs.length .any) l := by
 rw [← h.length]; exact RV.anys l h.one
theorem flat_len {s : Nat} : ∀ {es : List (List AC)}, (∀ x ∈ es, x.length = s) → es.flatten.length = es.length * s
 | [], _ => by simp
 | e :: es, h => by
   have ih := flat_len (es := es) (fun x hx => h x (List.mem_cons_of_mem _ hx))
   have he := h e (List.mem_cons_self ..)
   simp only [List.flatten_cons, List.length_append, List.length_cons, ih, he, Nat.add_mul, Nat.one_mul]; omega
section
variable {Γ : List (Nat × List AC)} {F : Nat → Prop} {w : World} {C : Ctx} {σ : St}
theorem appendRoom {P : Program} {w : World} (t ty e T : TypeId) (i : TypeInfo) (ht : P.underlying t = some (.slice e)) (hi : P.info? e = some i) (g n cap : Nat) (cur : Array Value) (hg : w.heap[g]? = some (.cells cur T (0, 0)))
   (a : Addr) (m c : Nat) (news : List Value) (hl : news.length = m * i.size) (hnews : ∀ j u, news[j]? = some u → w.cell? (a.add j) = some u) (h1 : ∀ u ∈ news, u.oneCell' = true) (hroom : n + m ≤ cap) (hfit : n * i.size + news.length ≤ cur.size) :
   (Builtin.append_ #[t, t] ty #[.slice (some ⟨g, 0, none⟩) n cap, .slice (some a) m c]).run P w = .ok (.slice (some ⟨g, 0, none⟩) (n + m) cap) (w.setRow g (cur.toList.take (n * i.size) ++ news ++ cur.toList.drop (n * i.size + news.length)).toArray) := by
 have k1 := run_firstCells_some (P := P) w i.size m a m c news hl hnews
 have k2 := run_storeCells_at P g (n * i.size) T news 0 cur w hg (by simpa using hfit) h1
 rw [Nat.add_zero] at k2
 simp [Builtin.append_, run_underlying ht, sizeOf, typeInfo, hi, Builtin.lenOf, hroom, k1, Addr.add_lit, k2]
theorem vec_len {s cap : Nat} {es : List (List AC)} (hl : ∀ x ∈ es, x.length = s) (hn : es.length ≤ cap) : (vec s es cap).length = cap * s := by
 rw [vec, List.length_append, flat_len hl, List.length_replicate, ← Nat.add_mul]; congr 1; omega
theorem vec_put {s cap : Nat} {es news : List (List AC)} {xs nv : List Value} (hel : ∀ x ∈ es, x.length = s) (hnc : es.length ≤ cap) (hxe : RV w C es.flatten (xs.take (es.length * s))) (hnr : RV w C news.flatten nv) (hnvl : nv.length = news.length * s) (o3 : RV w C (vec s es cap) xs) :
   RV w C (vec s (es ++ news) cap) (xs.take (es.length * s) ++ nv ++ xs.drop (es.length * s + nv.length)) := by
 have e1 : ((vec s es cap).drop (es.length * s + nv.length)).length = (cap - (es ++ news).length) * s := by
   rw [List.length_drop, vec_len hel hnc, hnvl, ← Nat.add_mul, List.length_append, Nat.sub_mul]
 have e2 : vec s (es ++ news) cap = es.flatten ++ news.flatten ++ List.replicate ((cap - (es ++ news).length) * s) .any := by rw [vec, List.flatten_append]
 rw [e2, ← e1]
 exact (hxe.append hnr).append (o3.drop _).toAny
theorem Inv.appendOwn (hi : Inv Γ F w C σ) {P : Program} {t ty e : TypeId} {tj : TI} (hsl : P.underlying t = some (.slice e)) (hj : TIOk P e tj) {c d : AC} {s cap0 : Nat} {es news : List (List AC)} {σ1 : St} (hb : BaseO σ c s es cap0 σ1) (hsrc : Src d s news) (hne : news ≠ [])
   (hs : tj.size = s) (hbytes : (es.length + news.length) * tj.bytes ≤ 140737488355328) (h63 : es.length + news.length ≤ 140737488355328) {v u : Value} (hv : R w C c v) (hu : R w C d u) :
   ∃ v' w' C' cap, (Builtin.append_ #[t, t] ty #[v, u]).run P w = .ok v' w' ∧ Goes F (fun _ => True) w C w' C' ∧ Inv Γ F w' C' (σ1.push (.cells (vec s (es ++ news) cap))) ∧ R w' C' (.arr (.l σ.n) s 0 (es ++ news).length cap) v' ∧ (es ++ news).length ≤ cap := by
 obtain ⟨i0, dd, z, g1, g2, g3, g4, g5, g6, g7, g8⟩ := hj.ex
 have hzl : z.cells.size = tj.size := by have := hj.len; rw [← g6] at this; simpa using this
 have hpos := hj.pos
 obtain ⟨hnl, b, capn, nv, rfl, hnvl, hnr, hheld, _⟩ := hsrc.held hu
 obtain ⟨ad, rfl, hh2⟩ := hheld.resolve_left hne
 have hm0 : 0 < news.length := List.length_pos_iff.2 hne
 have hnv1 : ∀ x ∈ nv, x.oneCell' = true := RV.one hnr
 have hnvl' : nv.length = news.length * i0.size := by rw [hnvl, g3, hs]
 have hone := hj.one
 rw [← g6] at hone
 -- a new row
 have newrow : ∀ (σ1 : St) (hi1 : Inv Γ F w C σ1) (hn1 : σ1.n = σ.n) (xs : List Value) (capk : Nat), RV w C es.flatten xs → (es ++ news).length ≤ capk → ∀ zc : Array Value, zc = Builtin.zeroCells z.cells (capk - (es ++ news).length) →
     ∃ C', Goes F (fun _ => True) w C (w.drew.alloc (.cells (xs.toArray ++ nv.toArray ++ zc) e)) C' ∧ Inv Γ F (w.drew.alloc (.cells (xs.toArray ++ nv.toArray ++ zc) e)) C' (σ1.push (.cells (vec s (es ++ news) capk))) ∧
       R (w.drew.alloc (.cells (xs.toArray ++ nv.toArray ++ zc) e)) C' (.arr (.l σ.n) s 0 (es ++ news).length capk) (.slice (some ⟨w.heap.size, 0, none⟩) (es ++ news).length capk) := by
   intro σ1 hi1 hn1 xs capk hxr hck zc hzc
   obtain ⟨he0, hid⟩ := hi1.drew
   have hz1 : ∀ x ∈ zc.toList, x.oneCell' = true := by rw [hzc]; exact zeroCells_one hone (by rw [hzl]; exact hpos) _
   have hzn : zc.toList.length = (capk - (es ++ news).length) * s := by rw [Array.length_toList, hzc, size_zeroCells, hzl, hs]
   have hr : RV w.drew C (vec s (es ++ news) capk) (xs ++ nv ++ zc.toList) := by
     rw [vec, List.flatten_append, ← hzn]
     exact ((hxr.append hnr).ext he0).append (RV.anys _ hz1)
   obtain ⟨C', he, hno, hnp, hin, hok, hblk⟩ := hid.newObj hr e
   have heq : (xs ++ nv ++ zc.toList).toArray = xs.toArray ++ nv.toArray ++ zc := by apply Array.ext'; simp
   rw [heq] at he hin
   refine ⟨C', ⟨(Stp.drew F w).trans (Stp.alloc (w := w.drew) hi.base _ _), he0.trans he, by rw [hno]; exact Nat.le_refl _, hnp⟩, hin, ⟨by rw [← hn1]; exact hok, ?_, hck⟩⟩
   rw [← hn1, hblk, Nat.zero_mul]; rfl
 cases hb with
 | nil =>
   simp only [R] at hv
   obtain ⟨rfl, _⟩ := hv
   have hr := run_append_nil (P := P) w t ty e i0 z hsl g1 g5 ad news.length capn nv hnvl' hh2 hm0 (by simp at h63; omega) (by rw [g4]; simp at hbytes; omega)
   have hge := grownCap_ge w news.length 0 e
   obtain ⟨C', k1, k2, k3⟩ := newrow σ hi rfl [] (grownCap w news.length 0 e) (by simp [RV]) (by simpa using hge) _ rfl
   refine ⟨_, _, C', _, hr, ?_, ?_, ?_, by simpa using hge⟩
   · simpa using k1
   · simpa using k2
   · simpa using k3
 | own _ _ _ i h hel hnc =>
   simp only [R, Nat.zero_mul] at hv
   obtain ⟨hok, rfl, _⟩ := hv
   obtain ⟨xs, T, o1, o2, o3, o4⟩ := (hi.obj i _ h).2
   have hkill := hi.kill h
   have hxl := RV.length o3
   have hfl := flat_len hel
   have hle : es.length * s ≤ xs.length := by rw [hxl, vec, List.length_append, hfl]; omega
   have hxe : RV w C es.flatten (xs.take (es.length * s)) := by
     have := o3.take (es.length * s)
     rwa [vec, List.take_append_of_le_length (by omega), List.take_of_length_le (by omega)] at this
   have hall : ∀ x ∈ es ++ news, x.length = s := fun x hx => (List.mem_append.1 hx).elim (hel x) (hnl x)
   by_cases hroom : es.length + news.length ≤ cap0
   · have hxs : xs.length = cap0 * s := by rw [hxl, vec_len hel hnc]
     have hfit : es.length * i0.size + nv.length ≤ xs.toArray.size := by
       rw [g3, hs, hnvl, ← Nat.add_mul]
       simp only [List.size_toArray, hxs]
       exact Nat.mul_le_mul_right _ hroom
     have hr := appendRoom (P := P) (w := w) t ty e T i0 hsl g1 (C.blk i) es.length cap0 xs.toArray o1 ad news.length capn nv hnvl' hh2 hnv1 hroom hfit
     rw [g3, hs] at hr hfit
     simp only [List.toList_toArray] at hr
     have hrv := vec_put hel hnc hxe hnr hnvl o3
     have hgh := setRow_heap' w (C.blk i) xs.toArray (xs.take (es.length * s) ++ nv ++ xs.drop (es.length * s + nv.length)).toArray T o1
     have hne2 : ∀ j p g, (σ.set i .dead).get j = some p → p.block C j = some g → g ≠ C.blk i := fun j p g hp hbk e => by
       by_cases e' : i = j
       · subst e'; rw [St.get_set_same] at hp; cases hp; simp [AObj.block] at hbk
       · rw [St.get_set_ne σ e'] at hp
         exact e' (hi.inj i j _ p g h hp (by rw [e]; rfl) hbk)
     have he : Ext w C (w.setRow (C.blk i) (xs.take (es.length * s) ++ nv ++ xs.drop (es.length * s + nv.length)).toArray) (C.more (C.blk i) none) :=
       ⟨fun a ha => World.cell?_of_block (setRow_other w _ _ _ fun e' => o4 a e' ha), fun a ha => ha, fun j _ ho => Ctx.more_old C _ _ ho⟩
     have hsz : (w.setRow (C.blk i) (xs.take (es.length * s) ++ nv ++ xs.drop (es.length * s + nv.length)).toArray).heap.size = w.heap.size := by simp
     have hnw := Ctx.more_new C (C.blk i) none (n := (σ.set i .dead).n) (by rw [← hkill.next])
     have hadd : Inv Γ F (w.setRow (C.blk i) (xs.take (es.length * s) ++ nv ++ xs.drop (es.length * s + nv.length)).toArray) (C.more (C.blk i) none) ((σ.set i .dead).push (.cells (vec s (es ++ news) cap0))) := by
       refine hkill.addObj (o := .cells (vec s (es ++ news) cap0)) (d := .l (σ.set i .dead).n) (St.get_push _ _) he ?_ ?_ ?_ ?_ ?_ hnw.1 ?_ ?_
       · show C.nl + 1 = (σ.set i .dead).n + 1
         rw [hkill.next]
       · intro k hk; rw [hsz]; exact hi.base k hk
       · intro a ha; rw [hsz]; exact hi.prot a ha
       · intro j p hp g x hbk hx
         rw [setRow_other w _ g _ (hne2 j p g hp hbk)]; exact hx
       · exact fun _ _ _ _ _ _ ha => ha
       · exact ⟨_, T, by rw [hnw.2.1]; exact hgh, by rw [hnw.2.1]; exact o2, hrv.ext he, fun a ha hp => o4 a (by rw [ha, hnw.2.1]) hp⟩
       · intro j p g hp hbk hb2
         simp only [AObj.block, Option.some.injEq] at hb2
         exact hne2 j p g hp hbk (by rw [← hb2, hnw.2.1])
     have hgo : Goes F (fun _ => True) w C (w.setRow (C.blk i) (xs.take (es.length * s) ++ nv ++ xs.drop (es.length * s + nv.length)).toArray) (C.more (C.blk i) none) := by
       refine ⟨⟨rfl, rfl, rfl, Nat.le_of_eq hsz.symm, fun k hk => setRow_other w _ k _ (by rintro rfl; exact o2 hk), fun a _ => ?_⟩, he, Nat.le_refl _, fun a ha => .inl ha⟩
       by_cases e' : a.block = C.blk i
       · simp only [World.frozen?, e', hgh, o1]
       · exact World.frozen?_of_block (setRow_other w _ a.block _ e')
     have hn2 : (σ.set i .dead).n = σ.n := St.n_set ..
     rw [hn2] at hnw
     refine ⟨_, _, C.more (C.blk i) none, cap0, hr, hgo, hadd, ?_, by rw [List.length_append]; exact hroom⟩
     simp only [R]
     exact ⟨hnw.1, by rw [hnw.2.1, Nat.zero_mul, List.length_append], by rw [List.length_append]; exact hroom⟩
   · clear hkill
     have hkill := hi.kill h
     have hheld2 : Held w (xs.take (es.length * s)) ⟨C.blk i, 0, none⟩ := fun j v hj => by
       have h2 : j < es.length * s := by have := (List.getElem?_eq_some_iff.1 hj).1; simp at this; omega
       rw [List.getElem?_take_of_lt h2] at hj
       rw [Addr.add_none rfl, cell_of_row _ _ _ _ _ _ o1]
       simpa using hj
     have hr := run_append_grow (P := P) w t ty e i0 z hsl g1 g5 ⟨C.blk i, 0, none⟩ es.length cap0 (xs.take (es.length * s)) (by simp [g3, hs]; omega) hheld2 ad news.length capn nv hnvl' hh2 (by omega) (by omega) (growslice_fits (by omega) (by rw [g4]; exact hbytes))
     have hge := grownCap_ge w (es.length + news.length) cap0 e
     obtain ⟨C', k1, k2, k3⟩ := newrow _ hkill (St.n_set ..) (xs.take (es.length * s)) (grownCap w (es.length + news.length) cap0 e) hxe (by simpa using hge) _ rfl
     refine ⟨_, _, C', _, ?_, k1, k2, k3, by simpa using hge⟩
     simpa using hr
end
theorem AOps.appOwn {E : Env} {ops : Array Oper} {rest : List Oper} {K : Cont} {o : Oper} {fr : Fr} {σ σ1 : St} {dd : Nat} {t : TypeId} {ti tj : TI} {x y : Operand} {c d : AC} {s cap0 : Nat} {es news : List (List AC)} (hT : TabOk E.P E.T) (hgd : o.guard = none) (hdst : o.dst = some dd) (hdd : Nat.ble (dd + 1) E.N = true)
   (ho : o.op = .call { callee := .builtin .append, args := #[x, y], argTypes := #[t, t] }) (ht : Tab.get t E.T = some ti) (hk : Nat.beq ti.kind 2 = true) (hj : Tab.get ti.elem E.T = some tj) (hx : aEval E.Γ fr x = some (.one c)) (hy : aEval E.Γ fr y = some (.one d)) (hb : BaseO σ c s es cap0 σ1) (hsrc : Src d s news) (hne : news ≠ [])
   (hs : Nat.beq tj.size s = true) (hbytes : (es.length + news.length) * tj.bytes ≤ 140737488355328) (h63 : es.length + news.length ≤ 140737488355328)
   (h : ∀ cap, (es ++ news).length ≤ cap → AOps E ops rest K ((dd, .one (.arr (.l σ.n) s 0 (es ++ news).length cap)) :: fr) (σ1.push (.cells (vec s (es ++ news) cap)))) : AOps E ops (o :: rest) K fr σ := by
 intro F w0 C0 w C tmps hg hi hf
 refine wpList_plain hgd fun N' hN => ?_
 have h1 := aEval_ok (a := ⟨tmps, E.ds⟩) hi hf hx
 have h2 := aEval_ok (a := ⟨tmps, E.ds⟩) hi hf hy
 simp only [RF] at h1 h2
 obtain ⟨v', w', C', cap, hrun, hgo, hi', hr, hle⟩ := hi.appendOwn (ty := o.type) ((hT t ti ht).slice (Nat.eq_of_beq_eq_true hk)) (hT _ _ hj) hb hsrc hne (Nat.eq_of_beq_eq_true hs) hbytes h63 h1 h2
 have hex : (execOp (Act.eval ⟨tmps, E.ds⟩) o).run E.P w = .ok (.value v') w' := by
   unfold execOp
   simp only [ho, resolve, invoke, builtin, Sem.run_bind, Sem.run_pure, Result.andThen_ok, List.map_toArray, List.map_cons, List.map_nil, hrun]
 unfold Oper.wp
 rw [hex, Oper.upon_value]
 refine hN _ _ ?_
 rw [put_eta, hdst]
 exact h cap hle F w0 C0 w' C' _ (hg.trans hgo.toO) hi' (putFr_ok (dst := some dd) (hf.ext hgo.chg) hdd hr)
end Go.Abs
namespace Go.Abs
open Go.MapKept
section
variable {E : Env} {o : Oper} {fr : Fr} {σ : St}
theorem AStep.lookupZ {t kt et : TypeId} {d : TypeDesc} {x i : Operand} {m : Id} {ck : Nat} {es : List (Nat × Value × FV)} {u zv : Value} {z v : FV} {cm : Bool} (ho : o.op = .lookup t x i cm) (hm : E.P.underlying t = some (.map kt et)) (hd : E.P.underlying kt = some d)
   (hx : aEval E.Γ fr x = some (.one (.mp m))) (hg : σ.get m = some (.map ck es)) (hu : aEval E.Γ fr i = some (.one (.lit u))) (hku : IsKey d u) (hks : KeysOk d es) (hzv : (E.P.info? et).map (·.zero) = some (some zv)) (hz : ∀ w C, RF w C z zv) (hv : (match mFind u es with | some v => v | none => z) = v) :
   AStep E o fr σ (if cm = true then .tup [v, .one (.lit (.bool (mFind u es).isSome))] else v) σ := by
 refine AStep.quiet fun F w C tmps hi hf => ?_
 have h1 := aEval_ok (a := ⟨tmps, E.ds⟩) hi hf hx
 have h2 := aEval_ok (a := ⟨tmps, E.ds⟩) hi hf hu
 simp only [RF, R] at h1 h2
 obtain ⟨hok, ents, he, _, hrm⟩ := hi.obj m _ hg
 have hzr : (zeroValue et).run E.P w = .ok zv w := zeroRun hzv
 have hzf : RF w C z zv := hz w C
 rcases findNow_ok hku 0 hrm hks with ⟨a1, a2, a3⟩ | ⟨j, e, v0, a1, a2, a3, a4, a5, a6⟩
 · rw [a1] at hv ⊢
   simp only at hv
   subst hv
   cases cm with
   | true =>
     refine ⟨.tuple #[zv, .bool false], ?_, [zv, .bool false], rfl, zv, [.bool false], rfl, hzf, .bool false, [], rfl, ⟨rfl, rfl⟩, rfl⟩
     unfold execOp
     simp only [ho]
     simp [Instr.lookup, run_underlying hm, h1.2, h2.1, MapKept.run_getObj_map he, run_checkKey hd hku, run_findKey hd a2, hzr, Result.andThen]
   | false =>
     refine ⟨zv, ?_, hzf⟩
     unfold execOp
     simp only [ho]
     simp [Instr.lookup, run_underlying hm, h1.2, h2.1, MapKept.run_getObj_map he, run_checkKey hd hku, run_findKey hd a2, hzr, Result.andThen]
 · rw [a2] at hv ⊢
   simp only at hv
   subst hv
   cases cm with
   | true =>
     refine ⟨.tuple #[e.val, .bool true], ?_, [e.val, .bool true], rfl, e.val, [.bool true], rfl, a3, .bool true, [], rfl, ⟨rfl, rfl⟩, rfl⟩
     unfold execOp
     simp only [ho]
     simp [Instr.lookup, run_underlying hm, h1.2, h2.1, MapKept.run_getObj_map he, run_checkKey hd hku, run_findKey hd a5, Result.andThen]
   | false =>
     refine ⟨e.val, ?_, a3⟩
     unfold execOp
     simp only [ho]
     simp [Instr.lookup, run_underlying hm, h1.2, h2.1, MapKept.run_getObj_map he, run_checkKey hd hku, run_findKey hd a5, Result.andThen]
theorem AStep.buildU {t : TypeId} (ho : o.op = .build t #[]) (hu : E.P.underlying t = some (.struct #[])) (hz : (E.P.info? t).map (·.zero) = some (some (.agg #[]))) : AStep E o fr σ (.agg []) σ := by
 refine AStep.quiet fun F w C tmps hi hf => ⟨.agg #[], ?_, [], rfl, rfl⟩
 unfold execOp
 simp only [ho]
 simp [Instr.build, zeroRun hz, run_underlying hu]
 rfl
theorem AStep.allocU {t : TypeId} (ho : o.op = .alloc t) (hz : (E.P.info? t).map (·.zero) = some (some (.agg #[]))) : AStep E o fr σ (.one (.ptr (.l σ.n) 0)) (σ.push (.cells [])) := by
 intro F w C tmps hi hf next Q hk
 obtain ⟨C', he, hno, hnp, hin, hok, hblk⟩ := hi.newObj (cs := []) (xs := []) (by simp [RV]) t
 have hrun : (execOp (Act.eval ⟨tmps, E.ds⟩) o).run E.P w = .ok (.value (.pointer (some ⟨w.heap.size, 0, none⟩))) (w.alloc (.cells #[] t)) := by
   unfold execOp
   simp only [ho]
   simp [Instr.alloc, zeroRun hz, newVar, newRow, Value.cells]
 unfold Oper.wp
 rw [hrun, Oper.upon_value]
 exact hk _ _ C' ⟨Stp.alloc hi.base _ _, he, Nat.le_of_eq hno.symm, hnp⟩ hin (by simp only [RF, R]; exact ⟨hok, by rw [hblk]⟩)
theorem AStep.storeU {t : TypeId} {x y : Operand} {j : Id} (ho : o.op = .store t x y) (hz : (E.P.info? t).map (·.size) = some 0) (hx : aEval E.Γ fr x = some (.one (.ptr j 0))) (hy : aEval E.Γ fr y = some (.agg [])) (hg : σ.get j = some (.cells [])) : AStep E o fr σ .bot σ := by
 intro F w C tmps hi hf next Q hk
 have h1 := aEval_ok (a := ⟨tmps, E.ds⟩) hi hf hx
 have h2 := aEval_ok (a := ⟨tmps, E.ds⟩) hi hf hy
 simp only [RF, R, RV] at h1 h2
 obtain ⟨xs, h2, rfl⟩ := h2
 have hrun : (execOp (Act.eval ⟨tmps, E.ds⟩) o).run E.P w = .ok .skip w := by
   unfold execOp
   simp only [ho, h1.2, h2]
   cases hi : E.P.info? t with
   | none => rw [hi] at hz; cases hz
   | some i =>
     rw [hi] at hz
     simp only [Option.map_some, Option.some.injEq] at hz
     simp [Instr.storeAt, Instr.sureAddr, storeVar, sizeOf, typeInfo, hi, hz, Value.cells, storeCells]
 unfold Oper.wp
 rw [hrun, Oper.upon_skip]
 exact hk undef _ C (Goes.refl _ _ _ _) hi (by simp [RF])
theorem AStep.eqBool {t yt : TypeId} {x y : Operand} {a b : Bool} (ht : E.P.underlying t = some .bool) (ho : o.op = .binOp .eql t x y yt) (hx : aEval E.Γ fr x = some (.one (.lit (.bool a)))) (hy : aEval E.Γ fr y = some (.one (.lit (.bool b)))) : AStep E o fr σ (.one (.lit (.bool (a == b)))) σ := by
 refine AStep.quiet fun F w C tmps hi hf => ⟨.bool (a == b), ?_, rfl, rfl⟩
 have h1 := aEval_ok (a := ⟨tmps, E.ds⟩) hi hf hx
 have h2 := aEval_ok (a := ⟨tmps, E.ds⟩) hi hf hy
 simp only [RF, R] at h1 h2
 unfold execOp
 simp only [ho, h1.1, h2.1, eqGuard_at_bool, Sem.run_bind, Sem.run_pure, Result.andThen_ok]
 simp [binOp, run_equal_bool _ _ _ _ ht]
theorem AStep.neBool {t yt : TypeId} {x y : Operand} {a b : Bool} (ht : E.P.underlying t = some .bool) (ho : o.op = .binOp .neq t x y yt) (hx : aEval E.Γ fr x = some (.one (.lit (.bool a)))) (hy : aEval E.Γ fr y = some (.one (.lit (.bool b)))) : AStep E o fr σ (.one (.lit (.bool (!(a == b))))) σ := by
 refine AStep.quiet fun F w C tmps hi hf => ⟨.bool (!(a == b)), ?_, rfl, rfl⟩
 have h1 := aEval_ok (a := ⟨tmps, E.ds⟩) hi hf hx
 have h2 := aEval_ok (a := ⟨tmps, E.ds⟩) hi hf hy
 simp only [RF, R] at h1 h2
 unfold execOp
 simp only [ho, h1.1, h2.1, eqGuard_at_bool, Sem.run_bind, Sem.run_pure, Result.andThen_ok]
 simp [binOp, run_equal_bool _ _ _ _ ht]
theorem AStep.min2 {t ty : TypeId} {x y : Operand} {k : IntKind} {a b : Int} {tys : Array TypeId} (ho : o.op = .call { callee := .builtin .min, args := #[x, y], argTypes := tys }) (hx : aEval E.Γ fr x = some (.one (.lit (.int k a)))) (hy : aEval E.Γ fr y = some (.one (.lit (.int k b)))) :
   AStep E o fr σ (.one (.lit (.int k (if b < a then b else a)))) σ := by
 refine AStep.quiet fun F w C tmps hi hf => ⟨.int k (if b < a then b else a), ?_, rfl, rfl⟩
 have h1 := aEval_ok (a := ⟨tmps, E.ds⟩) hi hf hx
 have h2 := aEval_ok (a := ⟨tmps, E.ds⟩) hi hf hy
 simp only [RF, R] at h1 h2
 unfold execOp
 simp [ho, h1.1, h2.1, resolve, invoke, builtin, Builtin.min_, Builtin.min2]
end
theorem ACode.condS {E : Env} {x y : Code} {K : Cont} {fr : Fr} {σ : St} {d : Nat} {b : Bool} (hb : Fr.get d fr = some (.one (.lit (.bool b)))) (ht : b = true → ACode E x K ((d, .one (.lit (.bool true))) :: fr) σ) (hf : b = false → ACode E y K ((d, .one (.lit (.bool false))) :: fr) σ) : ACode E (.cond (.tmp d) x y) K fr σ := by
 refine ACode.cond (c := .tmp d) (b := b) hb (fun h => ?_) (fun h => ?_)
 · subst h
   intro F w0 C0 w C tmps hg hi hfr
   exact ht rfl F w0 C0 w C tmps hg hi (hfr.refine hb (fun _ h => h))
 · subst h
   intro F w0 C0 w C tmps hg hi hfr
   exact hf rfl F w0 C0 w C tmps hg hi (hfr.refine hb (fun _ h => h))
theorem AStep.loadBox {E : Env} {o : Oper} {fr : Fr} {σ : St} {t : TypeId} {ti : TI} {x : Operand} {cs : List AC} {c : AC} (hT : TabOk E.P E.T) (ho : o.op = .load t x) (ht : Tab.get t E.T = some ti) (ha : ti.agg = false) (hs : Nat.beq ti.size 1 = true) (hx : aEval E.Γ fr x = some (.one (.box cs)))
   (hc : cs[0]? = some c) : AStep E o fr σ (.one c) σ := by
 refine AStep.ofOp hT ?_
 have hs' : ti.size = 1 := Nat.eq_of_beq_eq_true hs
 obtain ⟨d, ds, rfl⟩ : ∃ d ds, cs = d :: ds := by cases cs with | nil => simp at hc | cons d ds => exact ⟨d, ds, rfl⟩
 simp only [List.getElem?_cons_zero, Option.some.injEq] at hc
 subst hc
 simp only [ho, aOp, ht, ha, hs', hx, aLoad, forceK_eq, List.length_cons, List.take_succ_cons, List.take_zero, mkFV]
 rfl
theorem AOps.nilTest {E : Env} {ops : Array Oper} {rest : List Oper} {K : Cont} {o : Oper} {fr : Fr} {σ : St} {dd : Nat} {t e yt : TypeId} {x y : Operand} {s : Nat} {es : List (List AC)} (hgd : o.guard = none) (hdst : o.dst = some dd) (hdd : Nat.ble (dd + 1) E.N = true) (ho : o.op = .binOp .eql t x y yt)
   (ht : E.P.underlying t = some (.slice e)) (hx : aEval E.Γ fr x = some (.one (.sl s es))) (hy : aEval E.Γ fr y = some (.one (.lit (.slice none 0 0)))) (h : ∀ b, (b = true → es = []) → AOps E ops rest K ((dd, .one (.lit (.bool b))) :: fr) σ) : AOps E ops (o :: rest) K fr σ := by
 intro F w0 C0 w C tmps hg hi hf
 refine wpList_plain hgd fun N' hN => ?_
 have h1 := aEval_ok (a := ⟨tmps, E.ds⟩) hi hf hx
 have h2 := aEval_ok (a := ⟨tmps, E.ds⟩) hi hf hy
 simp only [RF, R] at h1 h2
 obtain ⟨a, cap, hv, hc, hor⟩ := h1
 have hex : (execOp (Act.eval ⟨tmps, E.ds⟩) o).run E.P w = .ok (.value (.bool a.isNone)) w := by
   unfold execOp
   simp only [ho, hv, h2.1, eqGuard_at_slice, Sem.run_bind, Sem.run_pure, Result.andThen_ok]
   simp [binOp, run_equal_slice_nil _ _ _ _ _ _ ht]
 unfold Oper.wp
 rw [hex, Oper.upon_value]
 refine hN _ _ ?_
 rw [put_eta, hdst]
 refine h a.isNone (fun hb => ?_) F w0 C0 w C _ hg hi (putFr_ok (dst := some dd) hf hdd (by simp only [RF, R]; exact ⟨trivial, rfl⟩))
 rcases hor with rfl | ⟨ad, rfl, _⟩
 · rfl
 · cases hb
end Go.Abs
namespace Go.Abs
def depFrJ (l : List Oper) (vals : Nat → Option FV) (o : Oper) : Fr :=
 o.after.toList.filterMap fun e => bif Region.binds .any e then (match (l[e.on]?).bind (·.dst), vals e.on with | some d, some v => some (d, v) | _, _ => none) else none
def headFrJ (vals : Nat → Option FV) : Nat → List Oper → Fr
 | k, o :: os => match o.dst, vals k with
   | some d, some v => (d, v) :: headFrJ vals (k + 1) os
   | _, _ => headFrJ vals (k + 1) os
 | _, [] => []
def updV (vals : Nat → Option FV) (i : Nat) (v : FV) : Nat → Option FV := fun j => if i = j then some v else vals j
theorem headFrJ_mem {vals : Nat → Option FV} : ∀ {os : List Oper} {k d : Nat} {v : FV}, (d, v) ∈ headFrJ vals k os → ∃ (i : Nat) (o : Oper), os[i]? = some o ∧ o.dst = some d ∧ vals (k + i) = some v
 | [], k, d, v, h => by simp [headFrJ] at h
 | o :: os, k, d, v, h => by
   simp only [headFrJ] at h
   have rec' : (d, v) ∈ headFrJ vals (k + 1) os → ∃ (i : Nat) (o' : Oper), (o :: os)[i]? = some o' ∧ o'.dst = some d ∧ vals (k + i) = some v := fun h => by
     obtain ⟨i, o', h1, h2, h3⟩ := headFrJ_mem h
     exact ⟨i + 1, o', by simpa using h1, h2, by rw [show k + (i + 1) = k + 1 + i by omega]; exact h3⟩
   split at h
   · rename_i d' w hd hw
     rcases List.mem_cons.1 h with h | h
     · cases h; exact ⟨0, o, rfl, hd, hw⟩
     · exact rec' h
   · exact rec' h
section
variable {E : Env} {l : List Oper} {frb : Fr} {n : Nat} {K : Cont} {J : Array Bool → St → (Nat → Option FV) → Prop}
structure MidJ (E : Env) (l : List Oper) (n : Nat) (frb : Fr) (J : Array Bool → St → (Nat → Option FV) → Prop) (F : Nat → Prop) (w0 : World) (C0 : Ctx) (listed : Array Bool) (a : Act) (w : World) : Prop where
 defers : a.defers = E.ds
 ex : ∃ C σ vals, J listed σ vals ∧ Goes F isO w0 C0 w C ∧ Inv E.Γ F w C σ ∧ FrOk w C E.N frb a.tmps ∧
   ∀ (i : Nat) (o : Oper) (d : Nat) (v : FV), i < n → l[i]? = some o → o.dst = some d → vals i = some v → ∃ u, a.tmps[d]? = some u ∧ RF w C v u
theorem mid_anyJ (hB : drawB l n = true) (hfb : (dsts (l.take n)).all (fun d => (Fr.get d frb).isNone) = true)
   (hstep : ∀ (listed : Array Bool) (σ : St) (vals : Nat → Option FV) (i : Nat) (o : Oper), i < n → l[i]? = some o → listed.getD i false = false → listed.size = l.length → (∀ e ∈ o.after.toList, Region.binds .any e = true → listed.getD e.on false = true) → J listed σ vals →
     o.dst.isSome = true ∧ dstOk E.N o.dst = true ∧ ∃ σ' v, HStep E l.toArray o (depFrJ l vals o ++ frb) σ σ' v ∧ J (listed.setIfInBounds i true) σ' (updV vals i v))
   (htail : ∀ σ vals, J (listedTo l.length n) σ vals → AOps E l.toArray (l.drop n) K (headFrJ vals 0 (l.take n) ++ frb) σ) {F : Nat → Prop} {w0 : World} {C0 : Ctx} :
   ∀ (c : Nat) (listed : Array Bool) (a : Act) (w : World), ((List.range n).filter fun j => !listed.getD j false).length = c → HeadInv .any l.toArray n listed → MidJ E l n frb J F w0 C0 listed a w →
     wpAny E.P .any l.toArray (Post E F w0 C0 K) (c + (l.length - n)) listed a w := by
 simp only [drawB, Bool.and_eq_true, decide_eq_true_eq] at hB
 obtain ⟨⟨⟨⟨⟨hn, hs⟩, hc⟩, hsq⟩, hdi⟩, haf⟩ := hB
 have hsz : l.toArray.size = l.length := by simp
 intro c
 induction c with
 | zero =>
   intro listed a w hcnt hinv hmid
   have hall : ∀ j, j < n → listed.getD j false = true := by
     intro j hj
     have : (List.range n).filter (fun j => !listed.getD j false) = [] := List.eq_nil_of_length_eq_zero hcnt
     have h2 := List.filter_eq_nil_iff.1 this j (List.mem_range.2 hj)
     simpa using h2
   have hl : listed = listedTo l.length n := by
     apply Array.ext
     · simp [listedTo, hinv.size]
     · intro j h1 h2
       have hj : j < l.length := by simpa [listedTo] using h2
       have h3 : listed.getD j false = listed[j] := by simp [h1]
       simp only [listedTo, Array.getElem_map, Array.getElem_range]
       by_cases hjn : j < n
       · rw [← h3, hall j hjn]; simp [hjn]
       · have := hinv.tail j (by omega) (by rw [hsz]; exact hj)
         rw [getD_tf h1] at this
         rw [← h3, this]; simp [hjn]
   have hdl : (l.drop n).length = l.length - n := by simp
   rw [Nat.zero_add, ← hdl]
   refine wpAny_of_seq (md := .any) (l.drop n) n listed a w (fun j => by simp [List.getElem?_drop]) (by rw [hl, hdl]; exact hsq) ?_
   obtain ⟨hd, C, σ, vals, hJ, hg, hi, hf, hv⟩ := hmid
   have ha : a = ⟨a.tmps, E.ds⟩ := by cases a; simp_all
   rw [ha]
   rw [hl] at hJ
   refine htail σ vals hJ F w0 C0 w C a.tmps hg hi ⟨hf.1, fun k x hk => ?_⟩
   rcases Fr.get_append hk with hk | ⟨_, hk⟩
   · obtain ⟨i, o, h1, h2, h3⟩ := headFrJ_mem (Fr.get_mem hk)
     rw [Nat.zero_add] at h3
     have hin : i < n := by
       have := (List.getElem?_eq_some_iff.1 h1).1
       simp at this; omega
     rw [List.getElem?_take_of_lt hin] at h1
     exact hv i o k x hin h1 h2 h3
   · exact hf.2 k x hk
 | succ c ih =>
   intro listed a w hcnt hinv hmid
   -- some head is not listed
   have hex : ∃ i, i < n ∧ listed.getD i false = false ∧ ∀ j, j < i → listed.getD j false = true := by
     have hne : ∃ i, i < n ∧ listed.getD i false = false := by
       cases hL : (List.range n).filter (fun j => !listed.getD j false) with
       | nil => rw [hL] at hcnt; simp at hcnt
       | cons i L =>
         have : i ∈ (List.range n).filter (fun j => !listed.getD j false) := by rw [hL]; simp
         obtain ⟨h1, h2⟩ := List.mem_filter.1 this
         exact ⟨i, List.mem_range.1 h1, by simpa using h2⟩
     obtain ⟨i, hi⟩ := hne
     induction i using Nat.strongRecOn with
     | _ i ih2 =>
       by_cases h : ∃ j, j < i ∧ listed.getD j false = false
       · obtain ⟨j, hj, hj2⟩ := h
         exact ih2 j hj ⟨by omega, hj2⟩
       · exact ⟨i, hi.1, hi.2, fun j hj => (Bool.not_eq_false _).mp (fun hb => h ⟨j, hj, hb⟩)⟩
   obtain ⟨i0, hi0n, hi0u, hi0m⟩ := hex
   have hready : i0 ∈ Region.ready .any l.toArray listed := by
     rw [mem_ready]
     have hlt : i0 < l.length := by omega
     refine ⟨by rw [getD_tf (by rw [hinv.size, hsz]; exact hlt)]; exact hi0u, l[i0], by simp [hlt], fun e he hb => ?_⟩
     have h1 := List.all_eq_true.1 haf (l[i0], i0) (by
       rw [List.mem_zipIdx_iff_getElem?]
       rw [List.getElem?_take_of_lt hi0n]
       simp [hlt])
     have h2 := Array.all_eq_true_iff_forall_mem.1 h1 e he
     simp only [hb, Bool.not_true, Bool.false_or, decide_eq_true_eq] at h2
     exact hi0m _ h2
   rw [show c + 1 + (l.length - n) = (c + (l.length - n)) + 1 by omega]
   refine ⟨fun h => absurd hready (by rw [h]; simp), fun i hi => ?_⟩
   have hi0t : listed.getD i0 true = false := (mem_ready.1 hready).1
   have hin : i < n := by
     rcases Nat.lt_or_ge i n with h | h
     · exact h
     · exact absurd hi (tail_waits hs hc (by rw [hsz]; exact hn) hinv _ i0 rfl hi0n hi0t i h)
   obtain ⟨hun, o, ho, hall⟩ := mem_ready.1 hi
   have hlo : l[i]? = some o := by simpa using ho
   obtain ⟨hd, C, σ, vals, hJ, hg, hinvw, hf, hvals⟩ := hmid
   have ha : a = ⟨a.tmps, E.ds⟩ := by cases a; simp_all
   rw [ha]
   have huni : listed.getD i false = false := getD_both hun
   have hil : i < listed.size := by rw [hinv.size, hsz]; omega
   have hlast : ∀ e ∈ o.after.toList, Region.binds .any e = true → e.on < n := fun e he hb => by
     have h1 := List.all_eq_true.1 haf (o, i) (by
       rw [List.mem_zipIdx_iff_getElem?]
       rw [List.getElem?_take_of_lt hin]
       simpa using hlo)
     have h2 := Array.all_eq_true_iff_forall_mem.1 h1 e (by simpa using he)
     simp only [hb, Bool.not_true, Bool.false_or, decide_eq_true_eq] at h2
     omega
   obtain ⟨hds, hdo, σ', v, hst, hJ'⟩ := hstep listed σ vals i o hin hlo huni (by rw [hinv.size, hsz]) (fun e he hb => hall e (by simpa using he) hb) hJ
   have hfr : FrOk w C E.N (depFrJ l vals o ++ frb) a.tmps := by
     refine ⟨hf.1, fun k x hk => ?_⟩
     rcases Fr.get_append hk with hk | ⟨_, hk⟩
     · have hm := Fr.get_mem hk
       obtain ⟨e, he, he2⟩ := List.mem_filterMap.1 hm
       cases hb : Region.binds .any e with
       | false => rw [hb] at he2; cases he2
       | true =>
         rw [hb] at he2; simp only [cond_true] at he2
         cases h1 : (l[e.on]?).bind (·.dst) with
         | none => rw [h1] at he2; cases he2
         | some d =>
           cases h2 : vals e.on with
           | none => rw [h1, h2] at he2; cases he2
           | some v' =>
             rw [h1, h2] at he2; cases he2
             cases h3 : l[e.on]? with
             | none => rw [h3] at h1; cases h1
             | some oe =>
               rw [h3] at h1
               exact hvals e.on oe k x (hlast e he hb) h3 h1 h2
     · exact hf.2 k x hk
   obtain ⟨d, hdd⟩ := Option.isSome_iff_exists.1 hds
   refine hstep_run hst hinvw hfr ho fun u w' C' hgo hi' hr => ?_
   refine ih _ _ _ ?_ (hinv.set hi hin) ⟨put_defers .., C', σ', _, hJ', hg.trans hgo.toO, hi', ?_, fun j oj dj vj hj hoj hdj hvj => ?_⟩
   · have h2 : ((List.range n).filter fun j => !(listed.setIfInBounds i true).getD j false).length + 1 = ((List.range n).filter fun j => !listed.getD j false).length := count_eq hin huni hil
     omega
   · refine ⟨by rw [hdd]; simp [Act.put, hf.1], fun k x hk => ?_⟩
     obtain ⟨u', hu', hr'⟩ := hf.2 k x hk
     have hne : d ≠ k := by
       rintro rfl
       have h1 := List.all_eq_true.1 hfb d (List.mem_filterMap.2 ⟨o, List.mem_of_getElem? (i := i) (by rw [List.getElem?_take_of_lt hin]; exact hlo), hdd⟩)
       rw [hk] at h1; cases h1
     refine ⟨u', ?_, hr'.ext hgo.chg⟩
     rw [hdd]
     simp only [Act.put]
     rw [Array.getElem?_setIfInBounds_ne hne]; exact hu'
   · by_cases e : i = j
     · subst e
       rw [hlo] at hoj; cases hoj
       rw [hdd] at hdj; cases hdj
       rw [updV, if_pos rfl] at hvj
       cases hvj
       have hdN : d < a.tmps.size := by
         rw [hf.1]
         rw [hdd] at hdo
         exact Nat.le_of_ble_eq_true (show Nat.ble (d + 1) E.N = true from hdo)
       exact ⟨u, by rw [hdd]; simp [Act.put, hdN], hr⟩
     · simp only [updV, if_neg e] at hvj
       obtain ⟨u', hu', hr'⟩ := hvals j oj dj vj hj hoj hdj hvj
       have hne : d ≠ dj := by
         rintro rfl
         exact e (distinct_dsts hdi (by rw [List.getElem?_take_of_lt hin]; exact hlo) (by rw [List.getElem?_take_of_lt hj]; exact hoj) hdd hdj)
       refine ⟨u', ?_, hr'.ext hgo.chg⟩
       rw [hdd]
       simp only [Act.put]
       rw [Array.getElem?_setIfInBounds_ne hne]; exact hu'
theorem ACode.drawJ {id : Nat} {fr : Fr} {σ0 : St} (n : Nat) (J : Array Bool → St → (Nat → Option FV) → Prop) (hm : E.P.follows .mixedOrders = true) (hB : drawB l n = true) (hfb : Fr.woO (dsts (l.take n)) fr = some frb) (h0 : J (Array.replicate l.length false) σ0 (fun _ => none))
   (hstep : ∀ (listed : Array Bool) (σ : St) (vals : Nat → Option FV) (i : Nat) (o : Oper), i < n → l[i]? = some o → listed.getD i false = false → listed.size = l.length → (∀ e ∈ o.after.toList, Region.binds .any e = true → listed.getD e.on false = true) → J listed σ vals →
     o.dst.isSome = true ∧ dstOk E.N o.dst = true ∧ ∃ σ' v, HStep E l.toArray o (depFrJ l vals o ++ frb) σ σ' v ∧ J (listed.setIfInBounds i true) σ' (updV vals i v))
   (htail : ∀ σ vals, J (listedTo l.length n) σ vals → AOps E l.toArray (l.drop n) K (headFrJ vals 0 (l.take n) ++ frb) σ) : ACode E (.region id l.toArray true) K fr σ0 := by
 have h3 := Fr.woO_eq hfb
 intro F w0 C0 w C tmps hg hi hf
 have hn : n < l.length := by
   simp only [drawB, Bool.and_eq_true, decide_eq_true_eq] at hB
   exact hB.1.1.1.1.1
 refine wp_region_any hm ?_
 have h := mid_anyJ (F := F) (w0 := w0) (C0 := C0) (J := J) hB (by rw [← h3]; exact Fr.wo_none _ _) hstep htail n (Array.replicate l.toArray.size false) ⟨tmps, E.ds⟩ w.drew (by
     have : ∀ j, (!(Array.replicate l.toArray.size false).getD j false) = true := fun j => by rw [getD_replicate_false]; rfl
     simp only [this]; rw [List.filter_eq_self.2 (fun _ _ => rfl), List.length_range])
   ⟨by simp, fun j oj _ hl => (by rw [getD_replicate_false] at hl; cases hl), fun t _ ht => getD_in (by simpa using ht) (getD_replicate_false _ _)⟩
   ⟨rfl, C, σ0, fun _ => none, by simpa using h0, hg.trans (Goes.drew hi).toO, hi.drew.2, ⟨hf.1, fun k x hk => by
       obtain ⟨u, hu, hr⟩ := hf.2 k x (by rw [← h3] at hk; exact (Fr.wo_get hk).1)
       exact ⟨u, hu, hr.ext hi.drew.1⟩⟩, fun i o d v _ _ _ hv => by cases hv⟩
 rw [show n + (l.length - n) = l.toArray.size by simp; omega] at h
 exact h
def mixV (S : List Nat) (vs : List FV) (f : Nat → Option FV) : Nat → Option FV := fun j => bif S.any (fun k => Nat.beq k j) then f j else vs[j]?
theorem ACode.drawS {id : Nat} {fr : Fr} {σ0 : St} {hd tl : List Oper} (n : Nat) (S : List Nat) (vs : List FV) (M : (Nat → Option FV) → St → Prop) (hm : E.P.follows .mixedOrders = true) (hB : drawB l n = true) (hsp : splitO n l = some (hd, tl)) (hfb : Fr.woO (dsts hd) fr = some frb) (h0 : M (fun _ => none) σ0)
   (hM : ∀ f σ, M f σ → ∀ i, S.any (fun k => Nat.beq k i) = false → f i = none)
   (hq : ∀ i o, i < n → S.any (fun k => Nat.beq k i) = false → l[i]? = some o → ∃ v, vs[i]? = some v ∧ o.dst.isSome = true ∧ dstOk E.N o.dst = true ∧ (o.after.toList.all fun e => !Region.binds .any e || !(S.any fun k => Nat.beq k e.on)) = true ∧ ∀ f σ, M f σ → HStep E l.toArray o (depFr l vs o ++ frb) σ σ v)
   (hs : ∀ f σ i o, M f σ → S.any (fun k => Nat.beq k i) = true → l[i]? = some o → f i = none → (∀ e ∈ o.after.toList, Region.binds .any e = true → S.any (fun k => Nat.beq k e.on) = true → (f e.on).isSome = true) →
     o.dst.isSome = true ∧ dstOk E.N o.dst = true ∧ ∃ σ' v, HStep E l.toArray o (depFrJ l (mixV S vs f) o ++ frb) σ σ' v ∧ M (updV f i v) σ')
   (htail : ∀ f σ, M f σ → (∀ i ∈ S, i < n → (f i).isSome = true) → AOps E l.toArray tl K (headFrJ (mixV S vs f) 0 hd ++ frb) σ) : ACode E (.region id l.toArray true) K fr σ0 := by
 obtain ⟨hsp1, hsp2⟩ := splitO_eq hsp
 subst hsp1; subst hsp2
 have depEq : ∀ (o : Oper) (v1 v2 : Nat → Option FV), (∀ e ∈ o.after.toList, Region.binds .any e = true → v1 e.on = v2 e.on) → depFrJ l v1 o = depFrJ l v2 o := fun o v1 v2 h => by
   unfold depFrJ
   refine filterMap_same fun e he => ?_
   cases hb : Region.binds .any e with
   | false => rfl
   | true => simp only [cond_true]; rw [h e he hb]
 refine ACode.drawJ n (fun listed σ vals => listed.size = l.length ∧ ∃ f, M f σ ∧ (∀ i, i < n → listed.getD i false = true → vals i = mixV S vs f i) ∧ (∀ i, S.any (fun k => Nat.beq k i) = true → listed.getD i false = (f i).isSome)) hm hB hfb
   ⟨by simp, _, h0, fun i _ h => absurd h (by rw [getD_replicate_false]; simp), fun i _ => by rw [getD_replicate_false]; rfl⟩ ?_ ?_
 · intro listed σ vals i o hi hlo hun hsz hall ⟨_, f, hMf, hv, hf⟩
   have hn : n < l.length := by
     have := hB
     simp only [drawB, Bool.and_eq_true, decide_eq_true_eq] at this
     exact this.1.1.1.1.1
   have hset : ∀ (v : FV) j, (listed.setIfInBounds i true).getD j false = if i = j then true else listed.getD j false := fun _ j => by
     by_cases e : i = j
     · subst e; simp [show i < listed.size by omega]
     · rw [getD_set_ne false e, if_neg e]
   have hlast : ∀ e ∈ o.after.toList, Region.binds .any e = true → e.on < n := fun e he hb => by
     have hB2 := hB
     simp only [drawB, Bool.and_eq_true, decide_eq_true_eq] at hB2
     have h1 := List.all_eq_true.1 hB2.2 (o, i) (by
       rw [List.mem_zipIdx_iff_getElem?]
       rw [List.getElem?_take_of_lt hi]
       simpa using hlo)
     have h2 := Array.all_eq_true_iff_forall_mem.1 h1 e (by simpa using he)
     simp only [hb, Bool.not_true, Bool.false_or, decide_eq_true_eq] at h2
     omega
   have hdj : depFrJ l vals o = depFrJ l (mixV S vs f) o := depEq o _ _ fun e he hb => hv e.on (hlast e he hb) (hall e he hb)
   rw [hdj]
   cases hS : S.any (fun k => Nat.beq k i) with
   | true =>
     have hfi : f i = none := by
       have := hf i hS
       rw [hun] at this
       cases h : f i with
       | none => rfl
       | some v => rw [h] at this; cases this
     obtain ⟨k1, k2, σ', v, k3, k4⟩ := hs f σ i o hMf hS hlo hfi fun e he hb hSe => by rw [← hf _ hSe]; exact hall e he hb
     refine ⟨k1, k2, σ', v, k3, by simp [hsz], updV f i v, k4, fun j hj hlj => ?_, fun j hj => ?_⟩
     · by_cases e : i = j
       · subst e
         simp [mixV, hS, updV]
       · rw [hset v, if_neg e] at hlj
         rw [updV, if_neg e, hv j hj hlj]
         simp only [mixV, updV, if_neg e]
     · rw [hset v]
       by_cases e : i = j
       · subst e; simp [updV]
       · simp only [if_neg e, updV]; exact hf j hj
   | false =>
     obtain ⟨v, q1, q2, q3, q4, q5⟩ := hq i o hi hS hlo
     have hdd : depFrJ l (mixV S vs f) o = depFr l vs o := by
       unfold depFrJ depFr
       refine filterMap_same fun e he => ?_
       cases hb : Region.binds .any e with
       | false => rfl
       | true =>
         have h1 := List.all_eq_true.1 q4 e he
         rw [hb] at h1
         simp only [Bool.not_true, Bool.false_or, Bool.not_eq_true'] at h1
         simp only [cond_true, mixV, h1, cond_false]
         rfl
     rw [hdd]
     refine ⟨q2, q3, σ, v, q5 f σ hMf, by simp [hsz], f, hMf, fun j hj hlj => ?_, fun j hj => ?_⟩
     · by_cases e : i = j
       · subst e
         rw [updV, if_pos rfl]; simp only [mixV, hS, cond_false]; exact q1.symm
       · rw [hset v, if_neg e] at hlj
         rw [updV, if_neg e, hv j hj hlj]
     · rw [hset v]
       by_cases e : i = j
       · subst e; rw [hS] at hj; cases hj
       · simp only [if_neg e]; exact hf j hj
 · intro σ vals ⟨_, f, hMf, hv, hf⟩
   have hn : n < l.length := by
     have := hB
     simp only [drawB, Bool.and_eq_true, decide_eq_true_eq] at this
     exact this.1.1.1.1.1
   have hl : ∀ j, j < n → (listedTo l.length n).getD j false = true := fun j hj => by
     have : j < (listedTo l.length n).size := by simp [listedTo]; omega
     simp [listedTo, show j < l.length by omega, hj]
   have heq : headFrJ vals 0 (l.take n) = headFrJ (mixV S vs f) 0 (l.take n) := by
     have : ∀ (os : List Oper) (k : Nat), k + os.length ≤ n → headFrJ vals k os = headFrJ (mixV S vs f) k os := by
       intro os
       induction os with
       | nil => intro k _; rfl
       | cons o os ih =>
         intro k hk
         simp only [List.length_cons] at hk
         simp only [headFrJ]
         rw [hv k (by omega) (hl k (by omega)), ih (k + 1) (by omega)]
     exact this _ 0 (by simp; omega)
   rw [heq]
   exact htail f σ hMf fun i hi hin => by
     rw [← hf i (List.any_eq_true.2 ⟨i, hi, beq_self i⟩)]
     exact hl i hin
end
end Go.Abs

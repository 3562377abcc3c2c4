/- The types of the seat as a table, and that the loaded program has them so. -/
import Derived.Test.YtoojdmgbffnmiaaDoorSub3
import Derived.Test.YtoojdmgbffnmiaaDoorChecked
import Derived.KernelRfl
import Derived.Laws.Strings
namespace Go.Proofs.YtoojdmgbffnmiaaDoor
open Go Go.Abs
def ti1 : TI := { size := 1, bytes := 8, agg := false, zero := [.nilFunc], kind := 0, flds := [], elem := 0, len := 0 }
theorem tok1 : TIOk Tryd.prog 1 ti1 := TIOk.of (z := .nilFunc) (by kernel_rfl) Tryd.underlying1 rfl rfl trivial rfl rfl rfl
def ti2 : TI := { size := 1, bytes := 8, agg := false, zero := [.int .i64 0], kind := 0, flds := [], elem := 0, len := 0 }
theorem tok2 : TIOk Tryd.prog 2 ti2 := TIOk.of (z := .int .i64 0) (by kernel_rfl) Tryd.underlying2 rfl rfl trivial rfl rfl rfl
def ti3 : TI := { size := 1, bytes := 8, agg := false, zero := [.int .i64 0], kind := 0, flds := [], elem := 0, len := 0 }
theorem tok3 : TIOk Tryd.prog 3 ti3 := TIOk.of (z := .int .i64 0) (by kernel_rfl) Tryd.underlying3 rfl rfl trivial rfl rfl rfl
def ti4 : TI := { size := 1, bytes := 1, agg := false, zero := [.bool false], kind := 0, flds := [], elem := 0, len := 0 }
theorem tok4 : TIOk Tryd.prog 4 ti4 := TIOk.of (z := .bool false) (by kernel_rfl) Tryd.underlying4 rfl rfl trivial rfl rfl rfl
def ti5 : TI := { size := 1, bytes := 1, agg := false, zero := [.int .u8 0], kind := 0, flds := [], elem := 0, len := 0 }
theorem tok5 : TIOk Tryd.prog 5 ti5 := TIOk.of (z := .int .u8 0) (by kernel_rfl) Tryd.underlying5 rfl rfl trivial rfl rfl rfl
def ti6 : TI := { size := 1, bytes := 1, agg := false, zero := [.int .u8 0], kind := 0, flds := [], elem := 0, len := 0 }
theorem tok6 : TIOk Tryd.prog 6 ti6 := TIOk.of (z := .int .u8 0) (by kernel_rfl) Tryd.underlying6 rfl rfl trivial rfl rfl rfl
def ti7 : TI := { size := 4, bytes := 24, agg := true, zero := [.int .i64 0, .int .i64 0, .bool false, .int .u8 0], kind := 1, flds := [(0, 2), (1, 3), (2, 4), (3, 6)], elem := 0, len := 0 }
theorem tok7 : TIOk Tryd.prog 7 ti7 := TIOk.of (z := .agg #[.int .i64 0, .int .i64 0, .bool false, .int .u8 0]) (by kernel_rfl) Tryd.underlying7 rfl rfl ⟨_, rfl, rfl⟩ rfl rfl rfl
def ti8 : TI := { size := 4, bytes := 24, agg := true, zero := [.int .i64 0, .int .i64 0, .bool false, .int .u8 0], kind := 1, flds := [(0, 2), (1, 3), (2, 4), (3, 6)], elem := 0, len := 0 }
theorem tok8 : TIOk Tryd.prog 8 ti8 := TIOk.of (z := .agg #[.int .i64 0, .int .i64 0, .bool false, .int .u8 0]) (by kernel_rfl) Tryd.underlying8 rfl rfl ⟨_, rfl, rfl⟩ rfl rfl rfl
def ti9 : TI := { size := 1, bytes := 16, agg := false, zero := [.string ⟨#[]⟩], kind := 5, flds := [], elem := 0, len := 0 }
theorem tok9 : TIOk Tryd.prog 9 ti9 := TIOk.of (z := .string ⟨#[]⟩) (by kernel_rfl) Tryd.underlying9 rfl rfl rfl rfl rfl rfl
def ti10 : TI := { size := 1, bytes := 16, agg := false, zero := [.string ⟨#[]⟩], kind := 5, flds := [], elem := 0, len := 0 }
theorem tok10 : TIOk Tryd.prog 10 ti10 := TIOk.of (z := .string ⟨#[]⟩) (by kernel_rfl) Tryd.underlying10 rfl rfl rfl rfl rfl rfl
def ti11 : TI := { size := 1, bytes := 16, agg := false, zero := [.string ⟨#[]⟩], kind := 5, flds := [], elem := 0, len := 0 }
theorem tok11 : TIOk Tryd.prog 11 ti11 := TIOk.of (z := .string ⟨#[]⟩) (by kernel_rfl) Tryd.underlying11 rfl rfl rfl rfl rfl rfl
def ti12 : TI := { size := 1, bytes := 8, agg := false, zero := [.int .u64 0], kind := 0, flds := [], elem := 0, len := 0 }
theorem tok12 : TIOk Tryd.prog 12 ti12 := TIOk.of (z := .int .u64 0) (by kernel_rfl) Tryd.underlying12 rfl rfl trivial rfl rfl rfl
def ti13 : TI := { size := 2, bytes := 24, agg := true, zero := [.string ⟨#[]⟩, .int .u64 0], kind := 1, flds := [(0, 9), (1, 12)], elem := 0, len := 0 }
theorem tok13 : TIOk Tryd.prog 13 ti13 := TIOk.of (z := .agg #[.string ⟨#[]⟩, .int .u64 0]) (by kernel_rfl) Tryd.underlying13 rfl rfl ⟨_, rfl, rfl⟩ rfl rfl rfl
def ti14 : TI := { size := 2, bytes := 24, agg := true, zero := [.string ⟨#[]⟩, .int .u64 0], kind := 1, flds := [(0, 9), (1, 12)], elem := 0, len := 0 }
theorem tok14 : TIOk Tryd.prog 14 ti14 := TIOk.of (z := .agg #[.string ⟨#[]⟩, .int .u64 0]) (by kernel_rfl) Tryd.underlying14 rfl rfl ⟨_, rfl, rfl⟩ rfl rfl rfl
def ti15 : TI := { size := 1, bytes := 8, agg := false, zero := [.pointer none], kind := 6, flds := [], elem := 152, len := 0 }
theorem tok15 : TIOk Tryd.prog 15 ti15 := TIOk.of (z := .pointer none) (by kernel_rfl) Tryd.underlying15 rfl rfl rfl rfl rfl rfl
def ti16 : TI := { size := 1, bytes := 8, agg := false, zero := [.pointer none], kind := 6, flds := [], elem := 155, len := 0 }
theorem tok16 : TIOk Tryd.prog 16 ti16 := TIOk.of (z := .pointer none) (by kernel_rfl) Tryd.underlying16 rfl rfl rfl rfl rfl rfl
def ti17 : TI := { size := 1, bytes := 8, agg := false, zero := [.pointer none], kind := 6, flds := [], elem := 164, len := 0 }
theorem tok17 : TIOk Tryd.prog 17 ti17 := TIOk.of (z := .pointer none) (by kernel_rfl) Tryd.underlying17 rfl rfl rfl rfl rfl rfl
def ti18 : TI := { size := 1, bytes := 8, agg := true, zero := [.pointer none], kind := 1, flds := [(0, 17)], elem := 0, len := 0 }
theorem tok18 : TIOk Tryd.prog 18 ti18 := TIOk.of (z := .agg #[.pointer none]) (by kernel_rfl) Tryd.underlying18 rfl rfl ⟨_, rfl, rfl⟩ rfl rfl rfl
def ti19 : TI := { size := 1, bytes := 8, agg := true, zero := [.pointer none], kind := 1, flds := [(0, 17)], elem := 0, len := 0 }
theorem tok19 : TIOk Tryd.prog 19 ti19 := TIOk.of (z := .agg #[.pointer none]) (by kernel_rfl) Tryd.underlying19 rfl rfl ⟨_, rfl, rfl⟩ rfl rfl rfl
def ti21 : TI := { size := 1, bytes := 4, agg := false, zero := [.int .i32 0], kind := 0, flds := [], elem := 0, len := 0 }
theorem tok21 : TIOk Tryd.prog 21 ti21 := TIOk.of (z := .int .i32 0) (by kernel_rfl) Tryd.underlying21 rfl rfl trivial rfl rfl rfl
def ti22 : TI := { size := 1, bytes := 24, agg := false, zero := [.slice none 0 0], kind := 2, flds := [], elem := 40, len := 0 }
theorem tok22 : TIOk Tryd.prog 22 ti22 := TIOk.of (z := .slice none 0 0) (by kernel_rfl) Tryd.underlying22 rfl rfl rfl rfl rfl rfl
def ti23 : TI := { size := 1, bytes := 24, agg := false, zero := [.slice none 0 0], kind := 2, flds := [], elem := 61, len := 0 }
theorem tok23 : TIOk Tryd.prog 23 ti23 := TIOk.of (z := .slice none 0 0) (by kernel_rfl) Tryd.underlying23 rfl rfl rfl rfl rfl rfl
def ti24 : TI := { size := 2, bytes := 48, agg := true, zero := [.slice none 0 0, .slice none 0 0], kind := 1, flds := [(0, 22), (1, 23)], elem := 0, len := 0 }
theorem tok24 : TIOk Tryd.prog 24 ti24 := TIOk.of (z := .agg #[.slice none 0 0, .slice none 0 0]) (by kernel_rfl) Tryd.underlying24 rfl rfl ⟨_, rfl, rfl⟩ rfl rfl rfl
def ti25 : TI := { size := 2, bytes := 48, agg := true, zero := [.slice none 0 0, .slice none 0 0], kind := 1, flds := [(0, 22), (1, 23)], elem := 0, len := 0 }
theorem tok25 : TIOk Tryd.prog 25 ti25 := TIOk.of (z := .agg #[.slice none 0 0, .slice none 0 0]) (by kernel_rfl) Tryd.underlying25 rfl rfl ⟨_, rfl, rfl⟩ rfl rfl rfl
def ti26 : TI := { size := 1, bytes := 24, agg := false, zero := [.slice none 0 0], kind := 2, flds := [], elem := 44, len := 0 }
theorem tok26 : TIOk Tryd.prog 26 ti26 := TIOk.of (z := .slice none 0 0) (by kernel_rfl) Tryd.underlying26 rfl rfl rfl rfl rfl rfl
def ti27 : TI := { size := 1, bytes := 8, agg := false, zero := [.int .i64 0], kind := 0, flds := [], elem := 0, len := 0 }
theorem tok27 : TIOk Tryd.prog 27 ti27 := TIOk.of (z := .int .i64 0) (by kernel_rfl) Tryd.underlying27 rfl rfl trivial rfl rfl rfl
def ti29 : TI := { size := 1, bytes := 8, agg := false, zero := [.nilFunc], kind := 0, flds := [], elem := 0, len := 0 }
theorem tok29 : TIOk Tryd.prog 29 ti29 := TIOk.of (z := .nilFunc) (by kernel_rfl) Tryd.underlying29 rfl rfl trivial rfl rfl rfl
def ti30 : TI := { size := 1, bytes := 8, agg := false, zero := [.nilFunc], kind := 0, flds := [], elem := 0, len := 0 }
theorem tok30 : TIOk Tryd.prog 30 ti30 := TIOk.of (z := .nilFunc) (by kernel_rfl) Tryd.underlying30 rfl rfl trivial rfl rfl rfl
def ti31 : TI := { size := 1, bytes := 8, agg := false, zero := [.nilFunc], kind := 0, flds := [], elem := 0, len := 0 }
theorem tok31 : TIOk Tryd.prog 31 ti31 := TIOk.of (z := .nilFunc) (by kernel_rfl) Tryd.underlying31 rfl rfl trivial rfl rfl rfl
def ti32 : TI := { size := 1, bytes := 8, agg := false, zero := [.nilFunc], kind := 0, flds := [], elem := 0, len := 0 }
theorem tok32 : TIOk Tryd.prog 32 ti32 := TIOk.of (z := .nilFunc) (by kernel_rfl) Tryd.underlying32 rfl rfl trivial rfl rfl rfl
def ti33 : TI := { size := 1, bytes := 8, agg := false, zero := [.nilFunc], kind := 0, flds := [], elem := 0, len := 0 }
theorem tok33 : TIOk Tryd.prog 33 ti33 := TIOk.of (z := .nilFunc) (by kernel_rfl) Tryd.underlying33 rfl rfl trivial rfl rfl rfl
def ti34 : TI := { size := 1, bytes := 24, agg := false, zero := [.slice none 0 0], kind := 2, flds := [], elem := 36, len := 0 }
theorem tok34 : TIOk Tryd.prog 34 ti34 := TIOk.of (z := .slice none 0 0) (by kernel_rfl) Tryd.underlying34 rfl rfl rfl rfl rfl rfl
def ti35 : TI := { size := 4, bytes := 56, agg := true, zero := [.int .i64 0, .string ⟨#[]⟩, .int .i64 0, .slice none 0 0], kind := 1, flds := [(0, 3), (1, 9), (2, 3), (3, 34)], elem := 0, len := 0 }
theorem tok35 : TIOk Tryd.prog 35 ti35 := TIOk.of (z := .agg #[.int .i64 0, .string ⟨#[]⟩, .int .i64 0, .slice none 0 0]) (by kernel_rfl) Tryd.underlying35 rfl rfl ⟨_, rfl, rfl⟩ rfl rfl rfl
def ti36 : TI := { size := 4, bytes := 56, agg := true, zero := [.int .i64 0, .string ⟨#[]⟩, .int .i64 0, .slice none 0 0], kind := 1, flds := [(0, 3), (1, 9), (2, 3), (3, 34)], elem := 0, len := 0 }
theorem tok36 : TIOk Tryd.prog 36 ti36 := TIOk.of (z := .agg #[.int .i64 0, .string ⟨#[]⟩, .int .i64 0, .slice none 0 0]) (by kernel_rfl) Tryd.underlying36 rfl rfl ⟨_, rfl, rfl⟩ rfl rfl rfl
def ti37 : TI := { size := 1, bytes := 8, agg := false, zero := [.nilFunc], kind := 0, flds := [], elem := 0, len := 0 }
theorem tok37 : TIOk Tryd.prog 37 ti37 := TIOk.of (z := .nilFunc) (by kernel_rfl) Tryd.underlying37 rfl rfl trivial rfl rfl rfl
def ti38 : TI := { size := 1, bytes := 24, agg := false, zero := [.slice none 0 0], kind := 2, flds := [], elem := 96, len := 0 }
theorem tok38 : TIOk Tryd.prog 38 ti38 := TIOk.of (z := .slice none 0 0) (by kernel_rfl) Tryd.underlying38 rfl rfl rfl rfl rfl rfl
def ti39 : TI := { size := 3, bytes := 48, agg := true, zero := [.string ⟨#[]⟩, .int .i64 0, .slice none 0 0], kind := 1, flds := [(0, 9), (1, 3), (2, 38)], elem := 0, len := 0 }
theorem tok39 : TIOk Tryd.prog 39 ti39 := TIOk.of (z := .agg #[.string ⟨#[]⟩, .int .i64 0, .slice none 0 0]) (by kernel_rfl) Tryd.underlying39 rfl rfl ⟨_, rfl, rfl⟩ rfl rfl rfl
def ti40 : TI := { size := 3, bytes := 48, agg := true, zero := [.string ⟨#[]⟩, .int .i64 0, .slice none 0 0], kind := 1, flds := [(0, 9), (1, 3), (2, 38)], elem := 0, len := 0 }
theorem tok40 : TIOk Tryd.prog 40 ti40 := TIOk.of (z := .agg #[.string ⟨#[]⟩, .int .i64 0, .slice none 0 0]) (by kernel_rfl) Tryd.underlying40 rfl rfl ⟨_, rfl, rfl⟩ rfl rfl rfl
def ti41 : TI := { size := 1, bytes := 8, agg := false, zero := [.nilFunc], kind := 0, flds := [], elem := 0, len := 0 }
theorem tok41 : TIOk Tryd.prog 41 ti41 := TIOk.of (z := .nilFunc) (by kernel_rfl) Tryd.underlying41 rfl rfl trivial rfl rfl rfl
def ti42 : TI := { size := 1, bytes := 8, agg := false, zero := [.nilFunc], kind := 0, flds := [], elem := 0, len := 0 }
theorem tok42 : TIOk Tryd.prog 42 ti42 := TIOk.of (z := .nilFunc) (by kernel_rfl) Tryd.underlying42 rfl rfl trivial rfl rfl rfl
def ti43 : TI := { size := 5, bytes := 72, agg := true, zero := [.string ⟨#[]⟩, .int .i64 0, .string ⟨#[]⟩, .int .i64 0, .slice none 0 0], kind := 1, flds := [(0, 9), (1, 36)], elem := 0, len := 0 }
theorem tok43 : TIOk Tryd.prog 43 ti43 := TIOk.of (z := .agg #[.string ⟨#[]⟩, .int .i64 0, .string ⟨#[]⟩, .int .i64 0, .slice none 0 0]) (by kernel_rfl) Tryd.underlying43 rfl rfl ⟨_, rfl, rfl⟩ rfl rfl rfl
def ti44 : TI := { size := 5, bytes := 72, agg := true, zero := [.string ⟨#[]⟩, .int .i64 0, .string ⟨#[]⟩, .int .i64 0, .slice none 0 0], kind := 1, flds := [(0, 9), (1, 36)], elem := 0, len := 0 }
theorem tok44 : TIOk Tryd.prog 44 ti44 := TIOk.of (z := .agg #[.string ⟨#[]⟩, .int .i64 0, .string ⟨#[]⟩, .int .i64 0, .slice none 0 0]) (by kernel_rfl) Tryd.underlying44 rfl rfl ⟨_, rfl, rfl⟩ rfl rfl rfl
def ti45 : TI := { size := 1, bytes := 8, agg := false, zero := [.nilFunc], kind := 0, flds := [], elem := 0, len := 0 }
theorem tok45 : TIOk Tryd.prog 45 ti45 := TIOk.of (z := .nilFunc) (by kernel_rfl) Tryd.underlying45 rfl rfl trivial rfl rfl rfl
def ti46 : TI := { size := 1, bytes := 8, agg := false, zero := [.nilFunc], kind := 0, flds := [], elem := 0, len := 0 }
theorem tok46 : TIOk Tryd.prog 46 ti46 := TIOk.of (z := .nilFunc) (by kernel_rfl) Tryd.underlying46 rfl rfl trivial rfl rfl rfl
def ti47 : TI := { size := 1, bytes := 24, agg := false, zero := [.slice none 0 0], kind := 2, flds := [], elem := 56, len := 0 }
theorem tok47 : TIOk Tryd.prog 47 ti47 := TIOk.of (z := .slice none 0 0) (by kernel_rfl) Tryd.underlying47 rfl rfl rfl rfl rfl rfl
def ti48 : TI := { size := 6, bytes := 88, agg := true, zero := [.int .i64 0, .slice none 0 0, .int .i64 0, .string ⟨#[]⟩, .int .i64 0, .slice none 0 0], kind := 1, flds := [(0, 3), (1, 47), (2, 36)], elem := 0, len := 0 }
theorem tok48 : TIOk Tryd.prog 48 ti48 := TIOk.of (z := .agg #[.int .i64 0, .slice none 0 0, .int .i64 0, .string ⟨#[]⟩, .int .i64 0, .slice none 0 0]) (by kernel_rfl) Tryd.underlying48 rfl rfl ⟨_, rfl, rfl⟩ rfl rfl rfl
def ti49 : TI := { size := 6, bytes := 88, agg := true, zero := [.int .i64 0, .slice none 0 0, .int .i64 0, .string ⟨#[]⟩, .int .i64 0, .slice none 0 0], kind := 1, flds := [(0, 3), (1, 47), (2, 36)], elem := 0, len := 0 }
theorem tok49 : TIOk Tryd.prog 49 ti49 := TIOk.of (z := .agg #[.int .i64 0, .slice none 0 0, .int .i64 0, .string ⟨#[]⟩, .int .i64 0, .slice none 0 0]) (by kernel_rfl) Tryd.underlying49 rfl rfl ⟨_, rfl, rfl⟩ rfl rfl rfl
def ti51 : TI := { size := 1, bytes := 8, agg := false, zero := [.nilFunc], kind := 0, flds := [], elem := 0, len := 0 }
theorem tok51 : TIOk Tryd.prog 51 ti51 := TIOk.of (z := .nilFunc) (by kernel_rfl) Tryd.underlying51 rfl rfl trivial rfl rfl rfl
def ti52 : TI := { size := 1, bytes := 8, agg := false, zero := [.nilFunc], kind := 0, flds := [], elem := 0, len := 0 }
theorem tok52 : TIOk Tryd.prog 52 ti52 := TIOk.of (z := .nilFunc) (by kernel_rfl) Tryd.underlying52 rfl rfl trivial rfl rfl rfl
def ti53 : TI := { size := 1, bytes := 8, agg := false, zero := [.nilFunc], kind := 0, flds := [], elem := 0, len := 0 }
theorem tok53 : TIOk Tryd.prog 53 ti53 := TIOk.of (z := .nilFunc) (by kernel_rfl) Tryd.underlying53 rfl rfl trivial rfl rfl rfl
def ti54 : TI := { size := 1, bytes := 8, agg := false, zero := [.nilFunc], kind := 0, flds := [], elem := 0, len := 0 }
theorem tok54 : TIOk Tryd.prog 54 ti54 := TIOk.of (z := .nilFunc) (by kernel_rfl) Tryd.underlying54 rfl rfl trivial rfl rfl rfl
def ti55 : TI := { size := 5, bytes := 72, agg := true, zero := [.string ⟨#[]⟩, .int .i64 0, .string ⟨#[]⟩, .int .i64 0, .slice none 0 0], kind := 1, flds := [(0, 9), (1, 36)], elem := 0, len := 0 }
theorem tok55 : TIOk Tryd.prog 55 ti55 := TIOk.of (z := .agg #[.string ⟨#[]⟩, .int .i64 0, .string ⟨#[]⟩, .int .i64 0, .slice none 0 0]) (by kernel_rfl) Tryd.underlying55 rfl rfl ⟨_, rfl, rfl⟩ rfl rfl rfl
def ti56 : TI := { size := 5, bytes := 72, agg := true, zero := [.string ⟨#[]⟩, .int .i64 0, .string ⟨#[]⟩, .int .i64 0, .slice none 0 0], kind := 1, flds := [(0, 9), (1, 36)], elem := 0, len := 0 }
theorem tok56 : TIOk Tryd.prog 56 ti56 := TIOk.of (z := .agg #[.string ⟨#[]⟩, .int .i64 0, .string ⟨#[]⟩, .int .i64 0, .slice none 0 0]) (by kernel_rfl) Tryd.underlying56 rfl rfl ⟨_, rfl, rfl⟩ rfl rfl rfl
def ti57 : TI := { size := 1, bytes := 8, agg := false, zero := [.nilFunc], kind := 0, flds := [], elem := 0, len := 0 }
theorem tok57 : TIOk Tryd.prog 57 ti57 := TIOk.of (z := .nilFunc) (by kernel_rfl) Tryd.underlying57 rfl rfl trivial rfl rfl rfl
def ti58 : TI := { size := 1, bytes := 8, agg := false, zero := [.nilFunc], kind := 0, flds := [], elem := 0, len := 0 }
theorem tok58 : TIOk Tryd.prog 58 ti58 := TIOk.of (z := .nilFunc) (by kernel_rfl) Tryd.underlying58 rfl rfl trivial rfl rfl rfl
def ti59 : TI := { size := 1, bytes := 8, agg := false, zero := [.nilFunc], kind := 0, flds := [], elem := 0, len := 0 }
theorem tok59 : TIOk Tryd.prog 59 ti59 := TIOk.of (z := .nilFunc) (by kernel_rfl) Tryd.underlying59 rfl rfl trivial rfl rfl rfl
def ti60 : TI := { size := 7, bytes := 104, agg := true, zero := [.string ⟨#[]⟩, .int .i64 0, .slice none 0 0, .int .i64 0, .string ⟨#[]⟩, .int .i64 0, .slice none 0 0], kind := 1, flds := [(0, 9), (1, 49)], elem := 0, len := 0 }
theorem tok60 : TIOk Tryd.prog 60 ti60 := TIOk.of (z := .agg #[.string ⟨#[]⟩, .int .i64 0, .slice none 0 0, .int .i64 0, .string ⟨#[]⟩, .int .i64 0, .slice none 0 0]) (by kernel_rfl) Tryd.underlying60 rfl rfl ⟨_, rfl, rfl⟩ rfl rfl rfl
def ti61 : TI := { size := 7, bytes := 104, agg := true, zero := [.string ⟨#[]⟩, .int .i64 0, .slice none 0 0, .int .i64 0, .string ⟨#[]⟩, .int .i64 0, .slice none 0 0], kind := 1, flds := [(0, 9), (1, 49)], elem := 0, len := 0 }
theorem tok61 : TIOk Tryd.prog 61 ti61 := TIOk.of (z := .agg #[.string ⟨#[]⟩, .int .i64 0, .slice none 0 0, .int .i64 0, .string ⟨#[]⟩, .int .i64 0, .slice none 0 0]) (by kernel_rfl) Tryd.underlying61 rfl rfl ⟨_, rfl, rfl⟩ rfl rfl rfl
def ti62 : TI := { size := 1, bytes := 8, agg := false, zero := [.nilFunc], kind := 0, flds := [], elem := 0, len := 0 }
theorem tok62 : TIOk Tryd.prog 62 ti62 := TIOk.of (z := .nilFunc) (by kernel_rfl) Tryd.underlying62 rfl rfl trivial rfl rfl rfl
def ti63 : TI := { size := 1, bytes := 8, agg := false, zero := [.nilFunc], kind := 0, flds := [], elem := 0, len := 0 }
theorem tok63 : TIOk Tryd.prog 63 ti63 := TIOk.of (z := .nilFunc) (by kernel_rfl) Tryd.underlying63 rfl rfl trivial rfl rfl rfl
def ti65 : TI := { size := 1, bytes := 8, agg := false, zero := [.nilFunc], kind := 0, flds := [], elem := 0, len := 0 }
theorem tok65 : TIOk Tryd.prog 65 ti65 := TIOk.of (z := .nilFunc) (by kernel_rfl) Tryd.underlying65 rfl rfl trivial rfl rfl rfl
def ti66 : TI := { size := 1, bytes := 8, agg := false, zero := [.nilFunc], kind := 0, flds := [], elem := 0, len := 0 }
theorem tok66 : TIOk Tryd.prog 66 ti66 := TIOk.of (z := .nilFunc) (by kernel_rfl) Tryd.underlying66 rfl rfl trivial rfl rfl rfl
def ti67 : TI := { size := 1, bytes := 8, agg := false, zero := [.nilFunc], kind := 0, flds := [], elem := 0, len := 0 }
theorem tok67 : TIOk Tryd.prog 67 ti67 := TIOk.of (z := .nilFunc) (by kernel_rfl) Tryd.underlying67 rfl rfl trivial rfl rfl rfl
def ti68 : TI := { size := 1, bytes := 8, agg := false, zero := [.nilFunc], kind := 0, flds := [], elem := 0, len := 0 }
theorem tok68 : TIOk Tryd.prog 68 ti68 := TIOk.of (z := .nilFunc) (by kernel_rfl) Tryd.underlying68 rfl rfl trivial rfl rfl rfl
def ti69 : TI := { size := 6, bytes := 120, agg := true, zero := [.string ⟨#[]⟩, .slice none 0 0, .slice none 0 0, .slice none 0 0, .slice none 0 0, .bool false], kind := 1, flds := [(0, 9), (1, 25), (3, 25), (5, 4)], elem := 0, len := 0 }
theorem tok69 : TIOk Tryd.prog 69 ti69 := TIOk.of (z := .agg #[.string ⟨#[]⟩, .slice none 0 0, .slice none 0 0, .slice none 0 0, .slice none 0 0, .bool false]) (by kernel_rfl) Tryd.underlying69 rfl rfl ⟨_, rfl, rfl⟩ rfl rfl rfl
def ti70 : TI := { size := 6, bytes := 120, agg := true, zero := [.string ⟨#[]⟩, .slice none 0 0, .slice none 0 0, .slice none 0 0, .slice none 0 0, .bool false], kind := 1, flds := [(0, 9), (1, 25), (3, 25), (5, 4)], elem := 0, len := 0 }
theorem tok70 : TIOk Tryd.prog 70 ti70 := TIOk.of (z := .agg #[.string ⟨#[]⟩, .slice none 0 0, .slice none 0 0, .slice none 0 0, .slice none 0 0, .bool false]) (by kernel_rfl) Tryd.underlying70 rfl rfl ⟨_, rfl, rfl⟩ rfl rfl rfl
def ti72 : TI := { size := 1, bytes := 8, agg := false, zero := [.nilFunc], kind := 0, flds := [], elem := 0, len := 0 }
theorem tok72 : TIOk Tryd.prog 72 ti72 := TIOk.of (z := .nilFunc) (by kernel_rfl) Tryd.underlying72 rfl rfl trivial rfl rfl rfl
def ti73 : TI := { size := 1, bytes := 8, agg := false, zero := [.nilFunc], kind := 0, flds := [], elem := 0, len := 0 }
theorem tok73 : TIOk Tryd.prog 73 ti73 := TIOk.of (z := .nilFunc) (by kernel_rfl) Tryd.underlying73 rfl rfl trivial rfl rfl rfl
def ti74 : TI := { size := 1, bytes := 8, agg := false, zero := [.nilFunc], kind := 0, flds := [], elem := 0, len := 0 }
theorem tok74 : TIOk Tryd.prog 74 ti74 := TIOk.of (z := .nilFunc) (by kernel_rfl) Tryd.underlying74 rfl rfl trivial rfl rfl rfl
def ti75 : TI := { size := 1, bytes := 8, agg := false, zero := [.nilFunc], kind := 0, flds := [], elem := 0, len := 0 }
theorem tok75 : TIOk Tryd.prog 75 ti75 := TIOk.of (z := .nilFunc) (by kernel_rfl) Tryd.underlying75 rfl rfl trivial rfl rfl rfl
def ti76 : TI := { size := 1, bytes := 8, agg := false, zero := [.nilFunc], kind := 0, flds := [], elem := 0, len := 0 }
theorem tok76 : TIOk Tryd.prog 76 ti76 := TIOk.of (z := .nilFunc) (by kernel_rfl) Tryd.underlying76 rfl rfl trivial rfl rfl rfl
def ti77 : TI := { size := 1, bytes := 8, agg := false, zero := [.nilFunc], kind := 0, flds := [], elem := 0, len := 0 }
theorem tok77 : TIOk Tryd.prog 77 ti77 := TIOk.of (z := .nilFunc) (by kernel_rfl) Tryd.underlying77 rfl rfl trivial rfl rfl rfl
def ti78 : TI := { size := 1, bytes := 8, agg := false, zero := [.nilFunc], kind := 0, flds := [], elem := 0, len := 0 }
theorem tok78 : TIOk Tryd.prog 78 ti78 := TIOk.of (z := .nilFunc) (by kernel_rfl) Tryd.underlying78 rfl rfl trivial rfl rfl rfl
def ti79 : TI := { size := 1, bytes := 8, agg := false, zero := [.nilFunc], kind := 0, flds := [], elem := 0, len := 0 }
theorem tok79 : TIOk Tryd.prog 79 ti79 := TIOk.of (z := .nilFunc) (by kernel_rfl) Tryd.underlying79 rfl rfl trivial rfl rfl rfl
def ti80 : TI := { size := 1, bytes := 8, agg := false, zero := [.nilFunc], kind := 0, flds := [], elem := 0, len := 0 }
theorem tok80 : TIOk Tryd.prog 80 ti80 := TIOk.of (z := .nilFunc) (by kernel_rfl) Tryd.underlying80 rfl rfl trivial rfl rfl rfl
def ti81 : TI := { size := 1, bytes := 8, agg := false, zero := [.nilFunc], kind := 0, flds := [], elem := 0, len := 0 }
theorem tok81 : TIOk Tryd.prog 81 ti81 := TIOk.of (z := .nilFunc) (by kernel_rfl) Tryd.underlying81 rfl rfl trivial rfl rfl rfl
def ti82 : TI := { size := 1, bytes := 8, agg := false, zero := [.nilFunc], kind := 0, flds := [], elem := 0, len := 0 }
theorem tok82 : TIOk Tryd.prog 82 ti82 := TIOk.of (z := .nilFunc) (by kernel_rfl) Tryd.underlying82 rfl rfl trivial rfl rfl rfl
def ti83 : TI := { size := 1, bytes := 8, agg := false, zero := [.nilFunc], kind := 0, flds := [], elem := 0, len := 0 }
theorem tok83 : TIOk Tryd.prog 83 ti83 := TIOk.of (z := .nilFunc) (by kernel_rfl) Tryd.underlying83 rfl rfl trivial rfl rfl rfl
def ti84 : TI := { size := 1, bytes := 8, agg := false, zero := [.nilFunc], kind := 0, flds := [], elem := 0, len := 0 }
theorem tok84 : TIOk Tryd.prog 84 ti84 := TIOk.of (z := .nilFunc) (by kernel_rfl) Tryd.underlying84 rfl rfl trivial rfl rfl rfl
def ti85 : TI := { size := 1, bytes := 8, agg := false, zero := [.nilFunc], kind := 0, flds := [], elem := 0, len := 0 }
theorem tok85 : TIOk Tryd.prog 85 ti85 := TIOk.of (z := .nilFunc) (by kernel_rfl) Tryd.underlying85 rfl rfl trivial rfl rfl rfl
def ti86 : TI := { size := 1, bytes := 8, agg := false, zero := [.nilFunc], kind := 0, flds := [], elem := 0, len := 0 }
theorem tok86 : TIOk Tryd.prog 86 ti86 := TIOk.of (z := .nilFunc) (by kernel_rfl) Tryd.underlying86 rfl rfl trivial rfl rfl rfl
def ti87 : TI := { size := 1, bytes := 8, agg := false, zero := [.nilFunc], kind := 0, flds := [], elem := 0, len := 0 }
theorem tok87 : TIOk Tryd.prog 87 ti87 := TIOk.of (z := .nilFunc) (by kernel_rfl) Tryd.underlying87 rfl rfl trivial rfl rfl rfl
def ti88 : TI := { size := 1, bytes := 8, agg := false, zero := [.nilFunc], kind := 0, flds := [], elem := 0, len := 0 }
theorem tok88 : TIOk Tryd.prog 88 ti88 := TIOk.of (z := .nilFunc) (by kernel_rfl) Tryd.underlying88 rfl rfl trivial rfl rfl rfl
def ti89 : TI := { size := 1, bytes := 8, agg := false, zero := [.nilFunc], kind := 0, flds := [], elem := 0, len := 0 }
theorem tok89 : TIOk Tryd.prog 89 ti89 := TIOk.of (z := .nilFunc) (by kernel_rfl) Tryd.underlying89 rfl rfl trivial rfl rfl rfl
def ti90 : TI := { size := 1, bytes := 8, agg := false, zero := [.nilFunc], kind := 0, flds := [], elem := 0, len := 0 }
theorem tok90 : TIOk Tryd.prog 90 ti90 := TIOk.of (z := .nilFunc) (by kernel_rfl) Tryd.underlying90 rfl rfl trivial rfl rfl rfl
def ti91 : TI := { size := 1, bytes := 8, agg := false, zero := [.int .u64 0], kind := 0, flds := [], elem := 0, len := 0 }
theorem tok91 : TIOk Tryd.prog 91 ti91 := TIOk.of (z := .int .u64 0) (by kernel_rfl) Tryd.underlying91 rfl rfl trivial rfl rfl rfl
def ti92 : TI := { size := 1, bytes := 8, agg := false, zero := [.nilFunc], kind := 0, flds := [], elem := 0, len := 0 }
theorem tok92 : TIOk Tryd.prog 92 ti92 := TIOk.of (z := .nilFunc) (by kernel_rfl) Tryd.underlying92 rfl rfl trivial rfl rfl rfl
def ti93 : TI := { size := 1, bytes := 8, agg := false, zero := [.nilFunc], kind := 0, flds := [], elem := 0, len := 0 }
theorem tok93 : TIOk Tryd.prog 93 ti93 := TIOk.of (z := .nilFunc) (by kernel_rfl) Tryd.underlying93 rfl rfl trivial rfl rfl rfl
def ti94 : TI := { size := 1, bytes := 8, agg := false, zero := [.nilFunc], kind := 0, flds := [], elem := 0, len := 0 }
theorem tok94 : TIOk Tryd.prog 94 ti94 := TIOk.of (z := .nilFunc) (by kernel_rfl) Tryd.underlying94 rfl rfl trivial rfl rfl rfl
def ti95 : TI := { size := 2, bytes := 40, agg := true, zero := [.string ⟨#[]⟩, .slice none 0 0], kind := 1, flds := [(0, 9), (1, 34)], elem := 0, len := 0 }
theorem tok95 : TIOk Tryd.prog 95 ti95 := TIOk.of (z := .agg #[.string ⟨#[]⟩, .slice none 0 0]) (by kernel_rfl) Tryd.underlying95 rfl rfl ⟨_, rfl, rfl⟩ rfl rfl rfl
def ti96 : TI := { size := 2, bytes := 40, agg := true, zero := [.string ⟨#[]⟩, .slice none 0 0], kind := 1, flds := [(0, 9), (1, 34)], elem := 0, len := 0 }
theorem tok96 : TIOk Tryd.prog 96 ti96 := TIOk.of (z := .agg #[.string ⟨#[]⟩, .slice none 0 0]) (by kernel_rfl) Tryd.underlying96 rfl rfl ⟨_, rfl, rfl⟩ rfl rfl rfl
def ti98 : TI := { size := 1, bytes := 8, agg := false, zero := [.nilFunc], kind := 0, flds := [], elem := 0, len := 0 }
theorem tok98 : TIOk Tryd.prog 98 ti98 := TIOk.of (z := .nilFunc) (by kernel_rfl) Tryd.underlying98 rfl rfl trivial rfl rfl rfl
def ti99 : TI := { size := 1, bytes := 8, agg := false, zero := [.nilFunc], kind := 0, flds := [], elem := 0, len := 0 }
theorem tok99 : TIOk Tryd.prog 99 ti99 := TIOk.of (z := .nilFunc) (by kernel_rfl) Tryd.underlying99 rfl rfl trivial rfl rfl rfl
def ti100 : TI := { size := 1, bytes := 8, agg := false, zero := [.nilFunc], kind := 0, flds := [], elem := 0, len := 0 }
theorem tok100 : TIOk Tryd.prog 100 ti100 := TIOk.of (z := .nilFunc) (by kernel_rfl) Tryd.underlying100 rfl rfl trivial rfl rfl rfl
def ti101 : TI := { size := 1, bytes := 8, agg := false, zero := [.nilFunc], kind := 0, flds := [], elem := 0, len := 0 }
theorem tok101 : TIOk Tryd.prog 101 ti101 := TIOk.of (z := .nilFunc) (by kernel_rfl) Tryd.underlying101 rfl rfl trivial rfl rfl rfl
def ti102 : TI := { size := 1, bytes := 8, agg := false, zero := [.nilFunc], kind := 0, flds := [], elem := 0, len := 0 }
theorem tok102 : TIOk Tryd.prog 102 ti102 := TIOk.of (z := .nilFunc) (by kernel_rfl) Tryd.underlying102 rfl rfl trivial rfl rfl rfl
def ti103 : TI := { size := 1, bytes := 8, agg := false, zero := [.pointer none], kind := 6, flds := [], elem := 106, len := 0 }
theorem tok103 : TIOk Tryd.prog 103 ti103 := TIOk.of (z := .pointer none) (by kernel_rfl) Tryd.underlying103 rfl rfl rfl rfl rfl rfl
def ti104 : TI := { size := 1, bytes := 8, agg := false, zero := [.map none], kind := 4, flds := [], elem := 36, len := 0 }
theorem tok104 : TIOk Tryd.prog 104 ti104 := TIOk.of (z := .map none) (by kernel_rfl) Tryd.underlying104 rfl rfl ⟨_, rfl⟩ rfl rfl rfl
def ti105 : TI := { size := 1, bytes := 8, agg := true, zero := [.map none], kind := 1, flds := [(0, 104)], elem := 0, len := 0 }
theorem tok105 : TIOk Tryd.prog 105 ti105 := TIOk.of (z := .agg #[.map none]) (by kernel_rfl) Tryd.underlying105 rfl rfl ⟨_, rfl, rfl⟩ rfl rfl rfl
def ti106 : TI := { size := 1, bytes := 8, agg := true, zero := [.map none], kind := 1, flds := [(0, 104)], elem := 0, len := 0 }
theorem tok106 : TIOk Tryd.prog 106 ti106 := TIOk.of (z := .agg #[.map none]) (by kernel_rfl) Tryd.underlying106 rfl rfl ⟨_, rfl, rfl⟩ rfl rfl rfl
def ti107 : TI := { size := 1, bytes := 8, agg := false, zero := [.nilFunc], kind := 0, flds := [], elem := 0, len := 0 }
theorem tok107 : TIOk Tryd.prog 107 ti107 := TIOk.of (z := .nilFunc) (by kernel_rfl) Tryd.underlying107 rfl rfl trivial rfl rfl rfl
def ti108 : TI := { size := 1, bytes := 8, agg := false, zero := [.nilFunc], kind := 0, flds := [], elem := 0, len := 0 }
theorem tok108 : TIOk Tryd.prog 108 ti108 := TIOk.of (z := .nilFunc) (by kernel_rfl) Tryd.underlying108 rfl rfl trivial rfl rfl rfl
def ti109 : TI := { size := 1, bytes := 8, agg := false, zero := [.nilFunc], kind := 0, flds := [], elem := 0, len := 0 }
theorem tok109 : TIOk Tryd.prog 109 ti109 := TIOk.of (z := .nilFunc) (by kernel_rfl) Tryd.underlying109 rfl rfl trivial rfl rfl rfl
def ti110 : TI := { size := 1, bytes := 8, agg := false, zero := [.nilFunc], kind := 0, flds := [], elem := 0, len := 0 }
theorem tok110 : TIOk Tryd.prog 110 ti110 := TIOk.of (z := .nilFunc) (by kernel_rfl) Tryd.underlying110 rfl rfl trivial rfl rfl rfl
def ti111 : TI := { size := 1, bytes := 8, agg := false, zero := [.nilFunc], kind := 0, flds := [], elem := 0, len := 0 }
theorem tok111 : TIOk Tryd.prog 111 ti111 := TIOk.of (z := .nilFunc) (by kernel_rfl) Tryd.underlying111 rfl rfl trivial rfl rfl rfl
def ti112 : TI := { size := 1, bytes := 8, agg := false, zero := [.nilFunc], kind := 0, flds := [], elem := 0, len := 0 }
theorem tok112 : TIOk Tryd.prog 112 ti112 := TIOk.of (z := .nilFunc) (by kernel_rfl) Tryd.underlying112 rfl rfl trivial rfl rfl rfl
def ti113 : TI := { size := 1, bytes := 8, agg := false, zero := [.nilFunc], kind := 0, flds := [], elem := 0, len := 0 }
theorem tok113 : TIOk Tryd.prog 113 ti113 := TIOk.of (z := .nilFunc) (by kernel_rfl) Tryd.underlying113 rfl rfl trivial rfl rfl rfl
def ti114 : TI := { size := 1, bytes := 8, agg := false, zero := [.nilFunc], kind := 0, flds := [], elem := 0, len := 0 }
theorem tok114 : TIOk Tryd.prog 114 ti114 := TIOk.of (z := .nilFunc) (by kernel_rfl) Tryd.underlying114 rfl rfl trivial rfl rfl rfl
def ti115 : TI := { size := 1, bytes := 8, agg := false, zero := [.nilFunc], kind := 0, flds := [], elem := 0, len := 0 }
theorem tok115 : TIOk Tryd.prog 115 ti115 := TIOk.of (z := .nilFunc) (by kernel_rfl) Tryd.underlying115 rfl rfl trivial rfl rfl rfl
def ti116 : TI := { size := 1, bytes := 8, agg := false, zero := [.nilFunc], kind := 0, flds := [], elem := 0, len := 0 }
theorem tok116 : TIOk Tryd.prog 116 ti116 := TIOk.of (z := .nilFunc) (by kernel_rfl) Tryd.underlying116 rfl rfl trivial rfl rfl rfl
def ti117 : TI := { size := 1, bytes := 8, agg := false, zero := [.nilFunc], kind := 0, flds := [], elem := 0, len := 0 }
theorem tok117 : TIOk Tryd.prog 117 ti117 := TIOk.of (z := .nilFunc) (by kernel_rfl) Tryd.underlying117 rfl rfl trivial rfl rfl rfl
def ti119 : TI := { size := 1, bytes := 8, agg := false, zero := [.nilFunc], kind := 0, flds := [], elem := 0, len := 0 }
theorem tok119 : TIOk Tryd.prog 119 ti119 := TIOk.of (z := .nilFunc) (by kernel_rfl) Tryd.underlying119 rfl rfl trivial rfl rfl rfl
def ti120 : TI := { size := 1, bytes := 8, agg := false, zero := [.nilFunc], kind := 0, flds := [], elem := 0, len := 0 }
theorem tok120 : TIOk Tryd.prog 120 ti120 := TIOk.of (z := .nilFunc) (by kernel_rfl) Tryd.underlying120 rfl rfl trivial rfl rfl rfl
def ti121 : TI := { size := 6, bytes := 48, agg := true, zero := [.int .i64 0, .int .i64 0, .int .i64 0, .int .i64 0, .int .i64 0, .int .i64 0], kind := 3, flds := [], elem := 3, len := 6 }
theorem tok121 : TIOk Tryd.prog 121 ti121 := TIOk.of (z := .agg #[.int .i64 0, .int .i64 0, .int .i64 0, .int .i64 0, .int .i64 0, .int .i64 0]) (by kernel_rfl) Tryd.underlying121 rfl rfl rfl rfl rfl rfl
def ti122 : TI := { size := 1, bytes := 8, agg := false, zero := [.nilFunc], kind := 0, flds := [], elem := 0, len := 0 }
theorem tok122 : TIOk Tryd.prog 122 ti122 := TIOk.of (z := .nilFunc) (by kernel_rfl) Tryd.underlying122 rfl rfl trivial rfl rfl rfl
def ti123 : TI := { size := 1, bytes := 8, agg := false, zero := [.nilFunc], kind := 0, flds := [], elem := 0, len := 0 }
theorem tok123 : TIOk Tryd.prog 123 ti123 := TIOk.of (z := .nilFunc) (by kernel_rfl) Tryd.underlying123 rfl rfl trivial rfl rfl rfl
def ti124 : TI := { size := 1, bytes := 8, agg := false, zero := [.nilFunc], kind := 0, flds := [], elem := 0, len := 0 }
theorem tok124 : TIOk Tryd.prog 124 ti124 := TIOk.of (z := .nilFunc) (by kernel_rfl) Tryd.underlying124 rfl rfl trivial rfl rfl rfl
def ti125 : TI := { size := 1, bytes := 8, agg := false, zero := [.nilFunc], kind := 0, flds := [], elem := 0, len := 0 }
theorem tok125 : TIOk Tryd.prog 125 ti125 := TIOk.of (z := .nilFunc) (by kernel_rfl) Tryd.underlying125 rfl rfl trivial rfl rfl rfl
def ti129 : TI := { size := 1, bytes := 8, agg := false, zero := [.nilFunc], kind := 0, flds := [], elem := 0, len := 0 }
theorem tok129 : TIOk Tryd.prog 129 ti129 := TIOk.of (z := .nilFunc) (by kernel_rfl) Tryd.underlying129 rfl rfl trivial rfl rfl rfl
def ti130 : TI := { size := 1, bytes := 8, agg := false, zero := [.nilFunc], kind := 0, flds := [], elem := 0, len := 0 }
theorem tok130 : TIOk Tryd.prog 130 ti130 := TIOk.of (z := .nilFunc) (by kernel_rfl) Tryd.underlying130 rfl rfl trivial rfl rfl rfl
def ti132 : TI := { size := 1, bytes := 8, agg := false, zero := [.int .u64 0], kind := 0, flds := [], elem := 0, len := 0 }
theorem tok132 : TIOk Tryd.prog 132 ti132 := TIOk.of (z := .int .u64 0) (by kernel_rfl) Tryd.underlying132 rfl rfl trivial rfl rfl rfl
def ti133 : TI := { size := 1, bytes := 8, agg := false, zero := [.nilFunc], kind := 0, flds := [], elem := 0, len := 0 }
theorem tok133 : TIOk Tryd.prog 133 ti133 := TIOk.of (z := .nilFunc) (by kernel_rfl) Tryd.underlying133 rfl rfl trivial rfl rfl rfl
def ti134 : TI := { size := 1, bytes := 8, agg := false, zero := [.nilFunc], kind := 0, flds := [], elem := 0, len := 0 }
theorem tok134 : TIOk Tryd.prog 134 ti134 := TIOk.of (z := .nilFunc) (by kernel_rfl) Tryd.underlying134 rfl rfl trivial rfl rfl rfl
def ti135 : TI := { size := 1, bytes := 24, agg := false, zero := [.slice none 0 0], kind := 2, flds := [], elem := 5, len := 0 }
theorem tok135 : TIOk Tryd.prog 135 ti135 := TIOk.of (z := .slice none 0 0) (by kernel_rfl) Tryd.underlying135 rfl rfl rfl rfl rfl rfl
def ti137 : TI := { size := 1, bytes := 8, agg := false, zero := [.nilFunc], kind := 0, flds := [], elem := 0, len := 0 }
theorem tok137 : TIOk Tryd.prog 137 ti137 := TIOk.of (z := .nilFunc) (by kernel_rfl) Tryd.underlying137 rfl rfl trivial rfl rfl rfl
def ti138 : TI := { size := 1, bytes := 8, agg := false, zero := [.nilFunc], kind := 0, flds := [], elem := 0, len := 0 }
theorem tok138 : TIOk Tryd.prog 138 ti138 := TIOk.of (z := .nilFunc) (by kernel_rfl) Tryd.underlying138 rfl rfl trivial rfl rfl rfl
def ti139 : TI := { size := 1, bytes := 8, agg := false, zero := [.nilFunc], kind := 0, flds := [], elem := 0, len := 0 }
theorem tok139 : TIOk Tryd.prog 139 ti139 := TIOk.of (z := .nilFunc) (by kernel_rfl) Tryd.underlying139 rfl rfl trivial rfl rfl rfl
def ti140 : TI := { size := 1, bytes := 8, agg := false, zero := [.nilFunc], kind := 0, flds := [], elem := 0, len := 0 }
theorem tok140 : TIOk Tryd.prog 140 ti140 := TIOk.of (z := .nilFunc) (by kernel_rfl) Tryd.underlying140 rfl rfl trivial rfl rfl rfl
def ti141 : TI := { size := 1, bytes := 8, agg := false, zero := [.pointer none], kind := 6, flds := [], elem := 127, len := 0 }
theorem tok141 : TIOk Tryd.prog 141 ti141 := TIOk.of (z := .pointer none) (by kernel_rfl) Tryd.underlying141 rfl rfl rfl rfl rfl rfl
def ti142 : TI := { size := 1, bytes := 8, agg := false, zero := [.nilFunc], kind := 0, flds := [], elem := 0, len := 0 }
theorem tok142 : TIOk Tryd.prog 142 ti142 := TIOk.of (z := .nilFunc) (by kernel_rfl) Tryd.underlying142 rfl rfl trivial rfl rfl rfl
def ti144 : TI := { size := 1, bytes := 4, agg := false, zero := [.int .u32 0], kind := 0, flds := [], elem := 0, len := 0 }
theorem tok144 : TIOk Tryd.prog 144 ti144 := TIOk.of (z := .int .u32 0) (by kernel_rfl) Tryd.underlying144 rfl rfl trivial rfl rfl rfl
def ti146 : TI := { size := 1, bytes := 8, agg := false, zero := [.nilFunc], kind := 0, flds := [], elem := 0, len := 0 }
theorem tok146 : TIOk Tryd.prog 146 ti146 := TIOk.of (z := .nilFunc) (by kernel_rfl) Tryd.underlying146 rfl rfl trivial rfl rfl rfl
def tab : Tab := [(1, ti1), (2, ti2), (3, ti3), (4, ti4), (5, ti5), (6, ti6), (7, ti7), (8, ti8), (9, ti9), (10, ti10), (11, ti11), (12, ti12), (13, ti13), (14, ti14), (15, ti15), (16, ti16), (17, ti17), (18, ti18), (19, ti19), (21, ti21), (22, ti22), (23, ti23), (24, ti24), (25, ti25), (26, ti26), (27, ti27), (29, ti29), (30, ti30), (31, ti31), (32, ti32), (33, ti33), (34, ti34), (35, ti35), (36, ti36), (37, ti37), (38, ti38), (39, ti39), (40, ti40), (41, ti41), (42, ti42), (43, ti43), (44, ti44), (45, ti45), (46, ti46), (47, ti47), (48, ti48), (49, ti49), (51, ti51), (52, ti52), (53, ti53), (54, ti54), (55, ti55), (56, ti56), (57, ti57), (58, ti58), (59, ti59), (60, ti60), (61, ti61), (62, ti62), (63, ti63), (65, ti65), (66, ti66), (67, ti67), (68, ti68), (69, ti69), (70, ti70), (72, ti72), (73, ti73), (74, ti74), (75, ti75), (76, ti76), (77, ti77), (78, ti78), (79, ti79), (80, ti80), (81, ti81), (82, ti82), (83, ti83), (84, ti84), (85, ti85), (86, ti86), (87, ti87), (88, ti88), (89, ti89), (90, ti90), (91, ti91), (92, ti92), (93, ti93), (94, ti94), (95, ti95), (96, ti96), (98, ti98), (99, ti99), (100, ti100), (101, ti101), (102, ti102), (103, ti103), (104, ti104), (105, ti105), (106, ti106), (107, ti107), (108, ti108), (109, ti109), (110, ti110), (111, ti111), (112, ti112), (113, ti113), (114, ti114), (115, ti115), (116, ti116), (117, ti117), (119, ti119), (120, ti120), (121, ti121), (122, ti122), (123, ti123), (124, ti124), (125, ti125), (129, ti129), (130, ti130), (132, ti132), (133, ti133), (134, ti134), (135, ti135), (137, ti137), (138, ti138), (139, ti139), (140, ti140), (141, ti141), (142, ti142), (144, ti144), (146, ti146)]
theorem tabOk : TabOk Tryd.prog tab := TabOk.of (by
  simp only [tab, List.forall_mem_cons]
  exact ⟨tok1, tok2, tok3, tok4, tok5, tok6, tok7, tok8, tok9, tok10, tok11, tok12, tok13, tok14, tok15, tok16, tok17, tok18, tok19, tok21, tok22, tok23, tok24, tok25, tok26, tok27, tok29, tok30, tok31, tok32, tok33, tok34, tok35, tok36, tok37, tok38, tok39, tok40, tok41, tok42, tok43, tok44, tok45, tok46, tok47, tok48, tok49, tok51, tok52, tok53, tok54, tok55, tok56, tok57, tok58, tok59, tok60, tok61, tok62, tok63, tok65, tok66, tok67, tok68, tok69, tok70, tok72, tok73, tok74, tok75, tok76, tok77, tok78, tok79, tok80, tok81, tok82, tok83, tok84, tok85, tok86, tok87, tok88, tok89, tok90, tok91, tok92, tok93, tok94, tok95, tok96, tok98, tok99, tok100, tok101, tok102, tok103, tok104, tok105, tok106, tok107, tok108, tok109, tok110, tok111, tok112, tok113, tok114, tok115, tok116, tok117, tok119, tok120, tok121, tok122, tok123, tok124, tok125, tok129, tok130, tok132, tok133, tok134, tok135, tok137, tok138, tok139, tok140, tok141, tok142, tok144, tok146, fun _ h => by cases h⟩)
end Go.Proofs.YtoojdmgbffnmiaaDoor
/- Types, schemes and specifications us plain data, and the abstract values that they are. No condition. -/
namespace Go.Proofs.YtoojdmgbffnmiaaDoor
open Go Go.Abs

abbrev Str := ByteArray
inductive Ty where
  | mk (kind : Int) (name : Str) (var : Int) (args : List Ty)
def Ty.kind : Ty → Int | .mk k _ _ _ => k
def Ty.name : Ty → Str | .mk _ n _ _ => n
def Ty.var : Ty → Int | .mk _ _ v _ => v
def Ty.args : Ty → List Ty | .mk _ _ _ us => us
@[simp] theorem Ty.kind_mk (k n v us) : (Ty.mk k n v us).kind = k := rfl
@[simp] theorem Ty.name_mk (k n v us) : (Ty.mk k n v us).name = n := rfl
@[simp] theorem Ty.var_mk (k n v us) : (Ty.mk k n v us).var = v := rfl
@[simp] theorem Ty.args_mk (k n v us) : (Ty.mk k n v us).args = us := rfl
abbrev int (n : Int) : AC := .lit (.int .i64 n)
abbrev str (s : Str) : AC := .lit (.string s)
mutual
def encTy : Ty → List AC
  | .mk k n v us => [int k, str n, int v, .sl 4 (encTys us)]
def encTys : List Ty → List (List AC)
  | [] => []
  | t :: ts => encTy t :: encTys ts
end
def cTy (t : Ty) : List AC := [int t.kind, str t.name, int t.var, .sl 4 (encTys t.args)]
theorem encTy_eq (t : Ty) : encTy t = cTy t := by cases t; simp [encTy, cTy]
theorem encTys_eq : ∀ l : List Ty, encTys l = l.map cTy
  | [] => rfl
  | t :: ts => by simp [encTys, encTys_eq ts, encTy_eq]
theorem encTys_get {l : List Ty} {i : Nat} {t : Ty} (h : l[i]? = some t) : (encTys l)[i]? = some (cTy t) := by rw [encTys_eq]; simp [h]

attribute [simp] idsL idsS AC.ids FV.ids idsF Fr.ids inL isO AObj.ids
mutual
theorem ids_encTy (p : Abs.Id → Prop) : ∀ t : Ty, idsL p (encTy t)
  | .mk k n v us => by simp [encTy, ids_encTys p us]
theorem ids_encTys (p : Abs.Id → Prop) : ∀ l : List Ty, idsS p (encTys l)
  | [] => by simp [encTys]
  | t :: ts => by simp [encTys, ids_encTy p t, ids_encTys p ts]
end
attribute [simp] ids_encTys
@[simp] theorem ids_cTy (p : Abs.Id → Prop) (t : Ty) : idsL p (cTy t) := by simp [cTy]
@[simp] theorem ren_encTys (ρ : Nat → Nat) (l : List Ty) : renS ρ (encTys l) = encTys l := renS_pure ρ _ (ids_encTys _ l)
@[simp] theorem len_encTys (l : List Ty) : (encTys l).length = l.length := by rw [encTys_eq]; simp
theorem idsS_map {α : Type} {p : Abs.Id → Prop} {f : α → List AC} (h : ∀ x, idsL p (f x)) : ∀ l : List α, idsS p (l.map f)
  | [] => by simp
  | x :: l => by simp [h x, idsS_map h l]

structure Prd where
  cls : Str
  ty : Ty
structure Sch where
  vars : Int
  preds : List Prd
  ty : Ty
structure VSig where
  name : Str
  sch : Sch
structure CSig where
  name : Str
  args : List Ty
structure DSig where
  name : Str
  params : Int
  cons : List CSig
structure Spec where
  datas : List DSig
  vals : List VSig
structure SMap where
  name : Str
  ty : Ty
structure Fctr where
  name : Str
  needs : Spec
  yields : Spec
  fresh : Bool
def cPrd (p : Prd) : List AC := str p.cls :: cTy p.ty
def cSch (s : Sch) : List AC := int s.vars :: .sl 5 (s.preds.map cPrd) :: cTy s.ty
def cVal (v : VSig) : List AC := str v.name :: cSch v.sch
def cCon (c : CSig) : List AC := [str c.name, .sl 4 (encTys c.args)]
def cData (d : DSig) : List AC := [str d.name, int d.params, .sl 2 (d.cons.map cCon)]
def cSpec (s : Spec) : List AC := [.sl 3 (s.datas.map cData), .sl 7 (s.vals.map cVal)]
def cMap (m : SMap) : List AC := str m.name :: cTy m.ty
def cFctr (f : Fctr) : List AC := str f.name :: (cSpec f.needs ++ cSpec f.yields ++ [.lit (.bool f.fresh)])
@[simp] theorem ids_cPrd (p : Abs.Id → Prop) (t : Prd) : idsL p (cPrd t) := by simp [cPrd]
@[simp] theorem ids_cSch (p : Abs.Id → Prop) (t : Sch) : idsL p (cSch t) := by simp [cSch, idsS_map (ids_cPrd p)]
@[simp] theorem ids_cVal (p : Abs.Id → Prop) (t : VSig) : idsL p (cVal t) := by simp [cVal]
@[simp] theorem ids_cCon (p : Abs.Id → Prop) (t : CSig) : idsL p (cCon t) := by simp [cCon]
@[simp] theorem ids_cData (p : Abs.Id → Prop) (t : DSig) : idsL p (cData t) := by simp [cData, idsS_map (ids_cCon p)]
@[simp] theorem ids_cSpec (p : Abs.Id → Prop) (t : Spec) : idsL p (cSpec t) := by simp [cSpec, idsS_map (ids_cData p), idsS_map (ids_cVal p)]
@[simp] theorem ids_cMap (p : Abs.Id → Prop) (t : SMap) : idsL p (cMap t) := by simp [cMap]
@[simp] theorem ids_cFctr (p : Abs.Id → Prop) (t : Fctr) : idsL p (cFctr t) := by simp [cFctr, cSpec, idsS_map (ids_cData p), idsS_map (ids_cVal p)]
@[simp] theorem ids_prds (p : Abs.Id → Prop) (l : List Prd) : idsS p (l.map cPrd) := idsS_map (ids_cPrd p) l
@[simp] theorem ids_vals (p : Abs.Id → Prop) (l : List VSig) : idsS p (l.map cVal) := idsS_map (ids_cVal p) l
@[simp] theorem ids_cons (p : Abs.Id → Prop) (l : List CSig) : idsS p (l.map cCon) := idsS_map (ids_cCon p) l
@[simp] theorem ids_datas (p : Abs.Id → Prop) (l : List DSig) : idsS p (l.map cData) := idsS_map (ids_cData p) l
@[simp] theorem ids_maps (p : Abs.Id → Prop) (l : List SMap) : idsS p (l.map cMap) := idsS_map (ids_cMap p) l
@[simp] theorem ren_prds (ρ : Nat → Nat) (l : List Prd) : renS ρ (l.map cPrd) = l.map cPrd := renS_pure ρ _ (ids_prds _ l)
@[simp] theorem ren_vals (ρ : Nat → Nat) (l : List VSig) : renS ρ (l.map cVal) = l.map cVal := renS_pure ρ _ (ids_vals _ l)
@[simp] theorem ren_cons (ρ : Nat → Nat) (l : List CSig) : renS ρ (l.map cCon) = l.map cCon := renS_pure ρ _ (ids_cons _ l)
@[simp] theorem ren_datas (ρ : Nat → Nat) (l : List DSig) : renS ρ (l.map cData) = l.map cData := renS_pure ρ _ (ids_datas _ l)
@[simp] theorem ren_maps (ρ : Nat → Nat) (l : List SMap) : renS ρ (l.map cMap) = l.map cMap := renS_pure ρ _ (ids_maps _ l)
theorem map_get {α : Type} {f : α → List AC} {l : List α} {i : Nat} {x : α} (h : l[i]? = some x) : (l.map f)[i]? = some (f x) := by simp [h]
theorem get_of_lt {α : Type} {l : List α} {i : Nat} (h : i < l.length) : ∃ x, l[i]? = some x := ⟨_, List.getElem?_eq_getElem h⟩

mutual
/-- No list below is longer than 2^20, no variable of a replacement is negative. -/
def smallTy : Ty → Prop
  | .mk _ _ _ us => us.length ≤ 1048576 ∧ smallTys us
def smallTys : List Ty → Prop
  | [] => True
  | t :: ts => smallTy t ∧ smallTys ts
end
theorem smallTys_iff : ∀ {l : List Ty}, smallTys l ↔ ∀ t ∈ l, smallTy t
  | [] => by simp [smallTys]
  | t :: ts => by simp [smallTys, smallTys_iff (l := ts)]
mutual
def posTy : Ty → Prop
  | .mk k _ v us => (k = 0 → 0 ≤ v) ∧ posTys us
def posTys : List Ty → Prop
  | [] => True
  | t :: ts => posTy t ∧ posTys ts
end
theorem posTys_iff : ∀ {l : List Ty}, posTys l ↔ ∀ t ∈ l, posTy t
  | [] => by simp [posTys]
  | t :: ts => by simp [posTys, posTys_iff (l := ts)]

mutual
def fillTy (args : List Ty) : Ty → Ty
  | .mk k n v us => if k = 0 then (match args[v.toNat]? with | some a => if v < args.length then a else .mk k n v us | none => .mk k n v us) else .mk k n 0 (fillTys args us)
def fillTys (args : List Ty) : List Ty → List Ty
  | [] => []
  | t :: ts => fillTy args t :: fillTys args ts
end
theorem fillTys_eq (args : List Ty) : ∀ l : List Ty, fillTys args l = l.map (fillTy args)
  | [] => rfl
  | t :: ts => by simp [fillTys, fillTys_eq args ts]

/-- The first map of a name. -/
def findMap (l : List SMap) (n : Str) : Option SMap := l.find? (fun m => m.name.toList == n.toList)
mutual
def substTy (l : List SMap) : Ty → Ty
  | .mk k n v us => if k = 1 then (match findMap l n with | some m => fillTy (substTys l us) m.ty | none => .mk k n v (substTys l us)) else .mk k n v (substTys l us)
def substTys (l : List SMap) : List Ty → List Ty
  | [] => []
  | t :: ts => substTy l t :: substTys l ts
end
theorem substTys_eq (m : List SMap) : ∀ l : List Ty, substTys m l = l.map (substTy m)
  | [] => rfl
  | t :: ts => by simp [substTys, substTys_eq m ts]

theorem RS_eq {x y : List (List AC)} {s : Nat} {i : Abs.Id} (h : x = y) : AC.gs s x i = AC.gs s y i := by rw [h]
theorem follows : Tryd.prog.follows .mixedOrders = true := by kernel_rfl
/-- Two equal strings, us the program compares them. -/
theorem str_eq {a b : Str} : (a.toList == b.toList) = true ↔ a = b := by
  constructor
  · intro h
    have := eq_of_beq h
    rw [Go.ByteArray.toList_eq, Go.ByteArray.toList_eq] at this
    exact ByteArray.ext (Array.toList_inj.1 this)
  · rintro rfl; simp
end Go.Proofs.YtoojdmgbffnmiaaDoor
/- filled: what it computes. -/
namespace Go.Proofs.YtoojdmgbffnmiaaDoor
open Go Go.Abs
set_option maxRecDepth 10000
set_option linter.unusedVariables false
variable {Γ : List (Nat × List AC)}
theorem filled_ok (hΓ : ∀ g cs, (g, cs) ∈ Γ → idsL isO cs) (args : List Ty) (hargs : args.length ≤ 1048576) : ∀ (t : Ty) (ht : smallTy t) (hp : posTy t), APure Tryd.prog Γ 47 [.agg (cTy t), .one (.sl 4 (encTys args))] (.agg (cTy (fillTy args t)))
  | .mk k n v ts, ht, hp => by
    have ih : ∀ a ∈ ts, APure Tryd.prog Γ 47 [.agg (cTy a), .one (.sl 4 (encTys args))] (.agg (cTy (fillTy args a))) := fun a ha =>
      filled_ok hΓ args hargs a (smallTys_iff.1 ht.2 a ha) (posTys_iff.1 hp.2 a ha)
    have hlen := ht.1
    intro ou
    refine AFn.walk 44 tabOk Tryd.func47 rfl (by kernel_rfl) rfl rfl fun hou => ?_
    repeat first | (with_reducible refine oj ?_; refine AOps.auto tabOk rfl ?_) | (with_reducible first | refine o1 ?_ | refine o2 ?_ | refine o3 ?_ | refine o4 ?_ | refine o5 ?_ | refine o6 ?_ | refine o7 ?_ | refine o8 ?_ | refine o9 ?_ | refine oa ?_ | refine ob ?_ | refine oc ?_ | refine od ?_ | refine oe ?_ | refine og ?_ | refine oh ?_ | refine oi ?_) | (with_reducible refine cExitMiss ?_ ?_; rfl) | (with_reducible refine ok ?_; first | refine ACode.condT rfl ?_ | refine ACode.condF rfl ?_)
    refine ACode.cond rfl (fun hb => ?_) (fun hb => ?_)
    · have hk : k = 0 := by simpa using hb
      have hv : 0 ≤ v := hp.1 hk
      repeat first | (with_reducible refine oj ?_; refine AOps.auto tabOk rfl ?_) | (with_reducible first | refine o1 ?_ | refine o2 ?_ | refine o3 ?_ | refine o4 ?_ | refine o5 ?_ | refine o6 ?_ | refine o7 ?_ | refine o8 ?_ | refine o9 ?_ | refine oa ?_ | refine ob ?_ | refine oc ?_ | refine od ?_ | refine oe ?_ | refine og ?_ | refine oh ?_ | refine oi ?_) | (with_reducible refine cExitMiss ?_ ?_; rfl) | (with_reducible refine ok ?_; first | refine ACode.condT rfl ?_ | refine ACode.condF rfl ?_)
      refine ACode.cond rfl (fun hb2 => ?_) (fun hb2 => ?_)
      · have hlt : v.toNat < args.length := by simp at hb2; omega
        obtain ⟨a, ha⟩ := get_of_lt hlt
        repeat first | (with_reducible refine oj ?_; refine AOps.auto tabOk rfl ?_) | (with_reducible first | refine o1 ?_ | refine o2 ?_ | refine o3 ?_ | refine o4 ?_ | refine o5 ?_ | refine o6 ?_ | refine o7 ?_ | refine o8 ?_ | refine o9 ?_ | refine oa ?_ | refine ob ?_ | refine oc ?_ | refine od ?_ | refine oe ?_ | refine og ?_ | refine oh ?_ | refine oi ?_) | (with_reducible refine cExitMiss ?_ ?_; rfl) | (with_reducible refine ok ?_; first | refine ACode.condT rfl ?_ | refine ACode.condF rfl ?_)
        refine AOps.step1 rfl rfl rfl (AStep.indexAddr tabOk rfl rfl rfl rfl rfl rfl (.inl rfl) rfl hv (encTys_get ha)) ?_
        repeat first | (with_reducible refine oj ?_; refine AOps.auto tabOk rfl ?_) | (with_reducible first | refine o1 ?_ | refine o2 ?_ | refine o3 ?_ | refine o4 ?_ | refine o5 ?_ | refine o6 ?_ | refine o7 ?_ | refine o8 ?_ | refine o9 ?_ | refine oa ?_ | refine ob ?_ | refine oc ?_ | refine od ?_ | refine oe ?_ | refine og ?_ | refine oh ?_ | refine oi ?_) | (with_reducible refine cExitMiss ?_ ?_; rfl) | (with_reducible refine ok ?_; first | refine ACode.condT rfl ?_ | refine ACode.condF rfl ?_)
        refine APure.fin rfl (WkF.ofEq ?_) (ids_cTy _ _) hou rfl
        have : v < (args.length : Int) := by omega
        have hf : fillTy args (.mk k n v ts) = a := by simp [fillTy, hk, ha, this]
        rw [hf]; rfl
      · repeat first | (with_reducible refine oj ?_; refine AOps.auto tabOk rfl ?_) | (with_reducible first | refine o1 ?_ | refine o2 ?_ | refine o3 ?_ | refine o4 ?_ | refine o5 ?_ | refine o6 ?_ | refine o7 ?_ | refine o8 ?_ | refine o9 ?_ | refine oa ?_ | refine ob ?_ | refine oc ?_ | refine od ?_ | refine oe ?_ | refine og ?_ | refine oh ?_ | refine oi ?_) | (with_reducible refine cExitMiss ?_ ?_; rfl) | (with_reducible refine ok ?_; first | refine ACode.condT rfl ?_ | refine ACode.condF rfl ?_)
        refine APure.fin rfl (WkF.ofEq ?_) (ids_cTy _ _) hou rfl
        simp at hb2
        have hn2 : args[v.toNat]? = none := by simp; omega
        have hf : fillTy args (.mk k n v ts) = .mk k n v ts := by simp [fillTy, hk, hn2]
        rw [hf]; rfl
    · have hk : k ≠ 0 := by simpa using hb
      repeat first | (with_reducible refine oj ?_; refine AOps.auto tabOk rfl ?_) | (with_reducible first | refine o1 ?_ | refine o2 ?_ | refine o3 ?_ | refine o4 ?_ | refine o5 ?_ | refine o6 ?_ | refine o7 ?_ | refine o8 ?_ | refine o9 ?_ | refine oa ?_ | refine ob ?_ | refine oc ?_ | refine od ?_ | refine oe ?_ | refine og ?_ | refine oh ?_ | refine oi ?_) | (with_reducible refine cExitMiss ?_ ?_; rfl) | (with_reducible refine ok ?_; first | refine ACode.condT rfl ?_ | refine ACode.condF rfl ?_)
      refine ACode.grow 2 3 36 4 rfl rfl ?_
      refine ACode.loopR hΓ (α := Nat) (fun j => [(30, .one (int j)), (29, .one (int (encTys ts).length)), (28, .one (.sl 4 (encTys ts))), (5, .one (.ptr (.l 2) 0)), (4, .one (.ptr (.l 1) 0)), (1, .one (.sl 4 (encTys args)))])
        (fun j => ⟨4, [(3, .tok 36 4 j), (2, .cells [int k, str n, int 0, .gs 4 (encTys (fillTys args (ts.take j))) (.l 3)]), (1, .cells [int 0, str ⟨#[]⟩, int 0, .lit (.slice none 0 0)])], ou⟩)
        (fun m j => j ≤ ts.length ∧ m = ts.length - j) (a0 := 0) (ρ := id) ⟨by omega, rfl⟩ (LessR.of rfl (by (repeat' first | exact FrSub.nil | refine FrSub.cons rfl (.ofEq rfl) ?_ | refine FrSub.consP rfl (.ofEq rfl) (by simp) ?_)) (by simp) (by repeat' first | exact LoSub.nil | refine LoSub.cons rfl ?_ rfl (by simp) ?_ | rfl | (refine (AObj.ren_pure _ _ ?_).symm; simp; done) | (simp [AObj.ren, renL, AC.ren, cTy]; done) | (simp [AObj.ren, renL, AC.ren, cTy]; rfl)) rfl rfl hou) fun m j hj => ?_
      obtain ⟨hjl, rfl⟩ := hj
      repeat first | (with_reducible refine oj ?_; refine AOps.auto tabOk rfl ?_) | (with_reducible first | refine o1 ?_ | refine o2 ?_ | refine o3 ?_ | refine o4 ?_ | refine o5 ?_ | refine o6 ?_ | refine o7 ?_ | refine o8 ?_ | refine o9 ?_ | refine oa ?_ | refine ob ?_ | refine oc ?_ | refine od ?_ | refine oe ?_ | refine og ?_ | refine oh ?_ | refine oi ?_) | (with_reducible refine cExitMiss ?_ ?_; rfl) | (with_reducible refine ok ?_; first | refine ACode.condT rfl ?_ | refine ACode.condF rfl ?_)
      refine ACode.cond rfl (fun hb2 => ?_) (fun hb2 => ?_)
      · have hlt : j < ts.length := by simpa using hb2
        obtain ⟨a, ha⟩ := get_of_lt hlt
        have hca := ih a (List.mem_of_getElem? ha)
        repeat first | (with_reducible refine oj ?_; refine AOps.auto tabOk rfl ?_) | (with_reducible first | refine o1 ?_ | refine o2 ?_ | refine o3 ?_ | refine o4 ?_ | refine o5 ?_ | refine o6 ?_ | refine o7 ?_ | refine o8 ?_ | refine o9 ?_ | refine oa ?_ | refine ob ?_ | refine oc ?_ | refine od ?_ | refine oe ?_ | refine og ?_ | refine oh ?_ | refine oi ?_) | (with_reducible refine cExitMiss ?_ ?_; rfl) | (with_reducible refine ok ?_; first | refine ACode.condT rfl ?_ | refine ACode.condF rfl ?_)
        refine AOps.step1 rfl rfl rfl (AStep.indexAddr tabOk rfl rfl rfl rfl rfl rfl (.inl rfl) rfl (by omega) (by simpa using encTys_get ha)) ?_
        repeat first | (with_reducible refine oj ?_; refine AOps.auto tabOk rfl ?_) | (with_reducible first | refine o1 ?_ | refine o2 ?_ | refine o3 ?_ | refine o4 ?_ | refine o5 ?_ | refine o6 ?_ | refine o7 ?_ | refine o8 ?_ | refine o9 ?_ | refine oa ?_ | refine ob ?_ | refine oc ?_ | refine od ?_ | refine oe ?_ | refine og ?_ | refine oh ?_ | refine oi ?_) | (with_reducible refine cExitMiss ?_ ?_; rfl) | (with_reducible refine ok ?_; first | refine ACode.condT rfl ?_ | refine ACode.condF rfl ?_)
        refine ACode.drawX tabOk 6 [(4, .agg (cTy (fillTy args a)))] follows (by kernel_rfl) rfl rfl rfl rfl (.call hΓ hca hou (by simp) rfl rfl rfl rfl rfl rfl .nil) ?_
        have hte : (encTys (fillTys args (ts.take j))).length = j := by simp [fillTys_eq]; omega
        repeat first | (with_reducible refine oj ?_; refine AOps.auto tabOk rfl ?_) | (with_reducible first | refine o1 ?_ | refine o2 ?_ | refine o3 ?_ | refine o4 ?_ | refine o5 ?_ | refine o6 ?_ | refine o7 ?_ | refine o8 ?_ | refine o9 ?_ | refine oa ?_ | refine ob ?_ | refine oc ?_ | refine od ?_ | refine oe ?_ | refine og ?_ | refine oh ?_ | refine oi ?_) | (with_reducible refine cExitMiss ?_ ?_; rfl) | (with_reducible refine ok ?_; first | refine ACode.condT rfl ?_ | refine ACode.condF rfl ?_)
        refine AOps.app tabOk rfl rfl rfl rfl rfl rfl rfl rfl rfl (Base.gs' _ _ _ _ _ (by rfl) hte.symm) (.sl _ _) rfl ?_ ?_ ?_
        · rw [hte]; show (j + 1) * 56 ≤ _; omega
        · rw [hte]; show j + 1 ≤ _; omega
        repeat first | (with_reducible refine oj ?_; refine AOps.auto tabOk rfl ?_) | (with_reducible first | refine o1 ?_ | refine o2 ?_ | refine o3 ?_ | refine o4 ?_ | refine o5 ?_ | refine o6 ?_ | refine o7 ?_ | refine o8 ?_ | refine o9 ?_ | refine oa ?_ | refine ob ?_ | refine oc ?_ | refine od ?_ | refine oe ?_ | refine og ?_ | refine oh ?_ | refine oi ?_) | (with_reducible refine cExitMiss ?_ ?_; rfl) | (with_reducible refine ok ?_; first | refine ACode.condT rfl ?_ | refine ACode.condF rfl ?_)
        refine AOps.step1 rfl rfl rfl (AStep.arith rfl rfl rfl (.inl ⟨rfl, rfl⟩) (inRange_i64 (by omega) (by omega))) ?_
        repeat first | (with_reducible refine oj ?_; refine AOps.auto tabOk rfl ?_) | (with_reducible first | refine o1 ?_ | refine o2 ?_ | refine o3 ?_ | refine o4 ?_ | refine o5 ?_ | refine o6 ?_ | refine o7 ?_ | refine o8 ?_ | refine o9 ?_ | refine oa ?_ | refine ob ?_ | refine oc ?_ | refine od ?_ | refine oe ?_ | refine og ?_ | refine oh ?_ | refine oi ?_) | (with_reducible refine cExitMiss ?_ ?_; rfl) | (with_reducible refine ok ?_; first | refine ACode.condT rfl ?_ | refine ACode.condF rfl ?_)
        refine cInv ⟨ts.length - (j + 1), j + 1, fun k => if k = 3 then 5 else k, by omega, ⟨by omega, rfl⟩, LessR.of rfl (by (repeat' first | exact FrSub.nil | refine FrSub.cons rfl (.ofEq rfl) ?_ | refine FrSub.consP rfl (.ofEq rfl) (by simp) ?_)) (by simp) ?_ rfl rfl hou⟩
        have hte2 : encTys (fillTys args (ts.take (j + 1))) = encTys (fillTys args (ts.take j)) ++ [cTy (fillTy args a)] := by
          simp [fillTys_eq, encTys_eq, List.take_add_one, ha]
        repeat' first | exact LoSub.nil | refine LoSub.cons rfl ?_ rfl (by simp) ?_ | rfl | (refine (AObj.ren_pure _ _ ?_).symm; simp; done) | (simp [AObj.ren, renL, AC.ren, cTy]; done) | (simp [AObj.ren, renL, AC.ren, cTy]; rfl)
        · simp [AObj.ren, hte]; rfl
        · simp only [AObj.ren, renL, AC.ren, ren_encTys]; rw [hte2]; rfl
      · have hlt : j = ts.length := by simp at hb2; omega
        subst hlt
        repeat first | (with_reducible refine oj ?_; refine AOps.auto tabOk rfl ?_) | (with_reducible first | refine o1 ?_ | refine o2 ?_ | refine o3 ?_ | refine o4 ?_ | refine o5 ?_ | refine o6 ?_ | refine o7 ?_ | refine o8 ?_ | refine o9 ?_ | refine oa ?_ | refine ob ?_ | refine oc ?_ | refine od ?_ | refine oe ?_ | refine og ?_ | refine oh ?_ | refine oi ?_) | (with_reducible refine cExitMiss ?_ ?_; rfl) | (with_reducible refine ok ?_; first | refine ACode.condT rfl ?_ | refine ACode.condF rfl ?_)
        refine APure.fin rfl (WkF.agg ?_) (ids_cTy _ _) hou rfl
        have hf : fillTy args (.mk k n v ts) = .mk k n 0 (fillTys args ts) := by simp [fillTy, hk]
        rw [hf]
        exact .cons (.refl _) <| .cons (.refl _) <| .cons (.refl _) <| .cons (.gsE (by simp)) .nil
end Go.Proofs.YtoojdmgbffnmiaaDoor
/- Subst: what it computes. -/
namespace Go.Proofs.YtoojdmgbffnmiaaDoor
open Go Go.Abs
set_option maxRecDepth 10000
set_option linter.unusedVariables false
variable {Γ : List (Nat × List AC)}
theorem find_none_take {α : Type} {p : α → Bool} {l : List α} (h : ∀ x ∈ l.take l.length, p x = false) : l.find? p = none := by
  rw [List.find?_eq_none]
  intro x hx
  have := h x (by simpa using hx)
  simp [this]
theorem find_at {α : Type} {p : α → Bool} : ∀ {l : List α} {j : Nat} {m : α}, (∀ x ∈ l.take j, p x = false) → l[j]? = some m → p m = true → l.find? p = some m
  | [], j, m, _, h, _ => by simp at h
  | x :: l, 0, m, _, h, hp => by simp at h; subst h; simp [hp]
  | x :: l, j + 1, m, h1, h, hp => by
    have hx := h1 x (by simp)
    simp only [List.find?_cons, hx]
    exact find_at (j := j) (fun y hy => h1 y (by simp [hy])) (by simpa using h) hp
theorem Subst_ok (hΓ : ∀ g cs, (g, cs) ∈ Γ → idsL isO cs) (l : List SMap) (hl : l.length ≤ 1048576) (hls : ∀ m ∈ l, smallTy m.ty ∧ posTy m.ty) : ∀ (t : Ty) (ht : smallTy t), APure Tryd.prog Γ 18 [.agg (cTy t), .one (.sl 5 (l.map cMap))] (.agg (cTy (substTy l t)))
  | .mk k n v ts, ht => by
    have ih : ∀ a ∈ ts, APure Tryd.prog Γ 18 [.agg (cTy a), .one (.sl 5 (l.map cMap))] (.agg (cTy (substTy l a))) := fun a ha =>
      Subst_ok hΓ l hl hls a (smallTys_iff.1 ht.2 a ha)
    have hlen := ht.1
    intro ou
    refine AFn.walk 54 tabOk Tryd.func18 rfl (by kernel_rfl) rfl rfl fun hou => ?_
    repeat first | (with_reducible refine oj ?_; refine AOps.auto tabOk rfl ?_) | (with_reducible first | refine o1 ?_ | refine o2 ?_ | refine o3 ?_ | refine o4 ?_ | refine o5 ?_ | refine o6 ?_ | refine o7 ?_ | refine o8 ?_ | refine o9 ?_ | refine oa ?_ | refine ob ?_ | refine oc ?_ | refine od ?_ | refine oe ?_ | refine og ?_ | refine oh ?_ | refine oi ?_) | (with_reducible refine cExitMiss ?_ ?_; rfl) | (with_reducible refine ok ?_; first | refine ACode.condT rfl ?_ | refine ACode.condF rfl ?_)
    refine ACode.grow 2 3 36 4 rfl rfl ?_
    refine ACode.loopR hΓ (α := Nat) (fun j => [(20, .one (int j)), (19, .one (int (encTys ts).length)), (18, .one (.sl 4 (encTys ts))), (5, .one (.ptr (.l 2) 0)), (4, .one (.ptr (.l 1) 0)), (2, .one (.ptr (.l 0) 0)), (1, .one (.sl 5 (l.map cMap)))])
      (fun j => ⟨4, [(3, .tok 36 4 j), (2, .cells [int k, str n, int v, .gs 4 (encTys (substTys l (ts.take j))) (.l 3)]), (1, .cells [int 0, str ⟨#[]⟩, int 0, .lit (.slice none 0 0)]), (0, .cells [int k, str n, int v, .sl 4 (encTys ts)])], ou⟩)
      (fun m j => j ≤ ts.length ∧ m = ts.length - j) (a0 := 0) (ρ := id) ⟨by omega, rfl⟩ (LessR.of rfl (by (repeat' first | exact FrSub.nil | refine FrSub.cons rfl (.ofEq rfl) ?_ | refine FrSub.consP rfl (.ofEq rfl) (by simp) ?_)) (by simp) (by repeat' first | exact LoSub.nil | refine LoSub.cons rfl ?_ rfl (by simp) ?_ | rfl | (refine (AObj.ren_pure _ _ ?_).symm; simp; done) | (simp [AObj.ren, renL, AC.ren, cTy]; done) | (simp [AObj.ren, renL, AC.ren, cTy]; rfl)) rfl rfl hou) fun m j hj => ?_
    obtain ⟨hjl, rfl⟩ := hj
    repeat first | (with_reducible refine oj ?_; refine AOps.auto tabOk rfl ?_) | (with_reducible first | refine o1 ?_ | refine o2 ?_ | refine o3 ?_ | refine o4 ?_ | refine o5 ?_ | refine o6 ?_ | refine o7 ?_ | refine o8 ?_ | refine o9 ?_ | refine oa ?_ | refine ob ?_ | refine oc ?_ | refine od ?_ | refine oe ?_ | refine og ?_ | refine oh ?_ | refine oi ?_) | (with_reducible refine cExitMiss ?_ ?_; rfl) | (with_reducible refine ok ?_; first | refine ACode.condT rfl ?_ | refine ACode.condF rfl ?_)
    refine ACode.cond rfl (fun hb2 => ?_) (fun hb2 => ?_)
    · have hlt : j < ts.length := by simpa using hb2
      obtain ⟨a, ha⟩ := get_of_lt hlt
      have hca := ih a (List.mem_of_getElem? ha)
      repeat first | (with_reducible refine oj ?_; refine AOps.auto tabOk rfl ?_) | (with_reducible first | refine o1 ?_ | refine o2 ?_ | refine o3 ?_ | refine o4 ?_ | refine o5 ?_ | refine o6 ?_ | refine o7 ?_ | refine o8 ?_ | refine o9 ?_ | refine oa ?_ | refine ob ?_ | refine oc ?_ | refine od ?_ | refine oe ?_ | refine og ?_ | refine oh ?_ | refine oi ?_) | (with_reducible refine cExitMiss ?_ ?_; rfl) | (with_reducible refine ok ?_; first | refine ACode.condT rfl ?_ | refine ACode.condF rfl ?_)
      refine AOps.step1 rfl rfl rfl (AStep.indexAddr tabOk rfl rfl rfl rfl rfl rfl (.inl rfl) rfl (by omega) (by simpa using encTys_get ha)) ?_
      repeat first | (with_reducible refine oj ?_; refine AOps.auto tabOk rfl ?_) | (with_reducible first | refine o1 ?_ | refine o2 ?_ | refine o3 ?_ | refine o4 ?_ | refine o5 ?_ | refine o6 ?_ | refine o7 ?_ | refine o8 ?_ | refine o9 ?_ | refine oa ?_ | refine ob ?_ | refine oc ?_ | refine od ?_ | refine oe ?_ | refine og ?_ | refine oh ?_ | refine oi ?_) | (with_reducible refine cExitMiss ?_ ?_; rfl) | (with_reducible refine ok ?_; first | refine ACode.condT rfl ?_ | refine ACode.condF rfl ?_)
      refine ACode.drawX tabOk 6 [(4, .agg (cTy (substTy l a)))] follows (by kernel_rfl) rfl rfl rfl rfl (.call hΓ hca hou (by simp) rfl rfl rfl rfl rfl rfl .nil) ?_
      have hte : (encTys (substTys l (ts.take j))).length = j := by simp [substTys_eq]; omega
      repeat first | (with_reducible refine oj ?_; refine AOps.auto tabOk rfl ?_) | (with_reducible first | refine o1 ?_ | refine o2 ?_ | refine o3 ?_ | refine o4 ?_ | refine o5 ?_ | refine o6 ?_ | refine o7 ?_ | refine o8 ?_ | refine o9 ?_ | refine oa ?_ | refine ob ?_ | refine oc ?_ | refine od ?_ | refine oe ?_ | refine og ?_ | refine oh ?_ | refine oi ?_) | (with_reducible refine cExitMiss ?_ ?_; rfl) | (with_reducible refine ok ?_; first | refine ACode.condT rfl ?_ | refine ACode.condF rfl ?_)
      refine AOps.app tabOk rfl rfl rfl rfl rfl rfl rfl rfl rfl (Base.gs' _ _ _ _ _ (by rfl) hte.symm) (.sl _ _) rfl ?_ ?_ ?_
      · rw [hte]; show (j + 1) * 56 ≤ _; omega
      · rw [hte]; show j + 1 ≤ _; omega
      repeat first | (with_reducible refine oj ?_; refine AOps.auto tabOk rfl ?_) | (with_reducible first | refine o1 ?_ | refine o2 ?_ | refine o3 ?_ | refine o4 ?_ | refine o5 ?_ | refine o6 ?_ | refine o7 ?_ | refine o8 ?_ | refine o9 ?_ | refine oa ?_ | refine ob ?_ | refine oc ?_ | refine od ?_ | refine oe ?_ | refine og ?_ | refine oh ?_ | refine oi ?_) | (with_reducible refine cExitMiss ?_ ?_; rfl) | (with_reducible refine ok ?_; first | refine ACode.condT rfl ?_ | refine ACode.condF rfl ?_)
      refine AOps.step1 rfl rfl rfl (AStep.arith rfl rfl rfl (.inl ⟨rfl, rfl⟩) (inRange_i64 (by omega) (by omega))) ?_
      repeat first | (with_reducible refine oj ?_; refine AOps.auto tabOk rfl ?_) | (with_reducible first | refine o1 ?_ | refine o2 ?_ | refine o3 ?_ | refine o4 ?_ | refine o5 ?_ | refine o6 ?_ | refine o7 ?_ | refine o8 ?_ | refine o9 ?_ | refine oa ?_ | refine ob ?_ | refine oc ?_ | refine od ?_ | refine oe ?_ | refine og ?_ | refine oh ?_ | refine oi ?_) | (with_reducible refine cExitMiss ?_ ?_; rfl) | (with_reducible refine ok ?_; first | refine ACode.condT rfl ?_ | refine ACode.condF rfl ?_)
      refine cInv ⟨ts.length - (j + 1), j + 1, fun k => if k = 3 then 5 else k, by omega, ⟨by omega, rfl⟩, LessR.of rfl (by (repeat' first | exact FrSub.nil | refine FrSub.cons rfl (.ofEq rfl) ?_ | refine FrSub.consP rfl (.ofEq rfl) (by simp) ?_)) (by simp) ?_ rfl rfl hou⟩
      have hte2 : encTys (substTys l (ts.take (j + 1))) = encTys (substTys l (ts.take j)) ++ [cTy (substTy l a)] := by
        simp [substTys_eq, encTys_eq, List.take_add_one, ha]
      repeat' first | exact LoSub.nil | refine LoSub.cons rfl ?_ rfl (by simp) ?_ | rfl | (refine (AObj.ren_pure _ _ ?_).symm; simp; done) | (simp [AObj.ren, renL, AC.ren, cTy]; done) | (simp [AObj.ren, renL, AC.ren, cTy]; rfl)
      · simp [AObj.ren, hte]; rfl
      · simp only [AObj.ren, renL, AC.ren, ren_encTys]; rw [hte2]; rfl
    · have hlt : j = ts.length := by simp at hb2; omega
      subst hlt
      simp only [List.take_length]
      have hlen2 : (substTys l ts).length = ts.length := by simp [substTys_eq]
      repeat first | (with_reducible refine oj ?_; refine AOps.auto tabOk rfl ?_) | (with_reducible first | refine o1 ?_ | refine o2 ?_ | refine o3 ?_ | refine o4 ?_ | refine o5 ?_ | refine o6 ?_ | refine o7 ?_ | refine o8 ?_ | refine o9 ?_ | refine oa ?_ | refine ob ?_ | refine oc ?_ | refine od ?_ | refine oe ?_ | refine og ?_ | refine oh ?_ | refine oi ?_) | (with_reducible refine cExitMiss ?_ ?_; rfl) | (with_reducible refine ok ?_; first | refine ACode.condT rfl ?_ | refine ACode.condF rfl ?_)
      refine ACode.cond rfl (fun hb => ?_) (fun hb => ?_)
      · have hk : k = 1 := by simpa using hb
        repeat first | (with_reducible refine oj ?_; refine AOps.auto tabOk rfl ?_) | (with_reducible first | refine o1 ?_ | refine o2 ?_ | refine o3 ?_ | refine o4 ?_ | refine o5 ?_ | refine o6 ?_ | refine o7 ?_ | refine o8 ?_ | refine o9 ?_ | refine oa ?_ | refine ob ?_ | refine oc ?_ | refine od ?_ | refine oe ?_ | refine og ?_ | refine oh ?_ | refine oi ?_) | (with_reducible refine cExitMiss ?_ ?_; rfl) | (with_reducible refine ok ?_; first | refine ACode.condT rfl ?_ | refine ACode.condF rfl ?_)
        refine ACode.loopR hΓ (α := Nat) (fun j => [(38, .one (int j)), (37, .one (int (l.map cMap).length)), (36, .one (.sl 5 (l.map cMap))), (5, .one (.ptr (.l 2) 0)), (4, .one (.ptr (.l 1) 0)), (2, .one (.ptr (.l 0) 0))])
          (fun j => ⟨4, [(3, .tok 36 4 ts.length), (2, .cells [int k, str n, int v, .gs 4 (encTys (substTys l ts)) (.l 3)]), (1, .cells [int 0, str ⟨#[]⟩, int 0, .lit (.slice none 0 0)]), (0, .cells [int k, str n, int v, .sl 4 (encTys ts)])], ou⟩)
          (fun m j => j ≤ l.length ∧ (∀ x ∈ l.take j, (x.name.toList == n.toList) = false) ∧ m = l.length - j) (a0 := 0) (ρ := id) ⟨by omega, by simp, rfl⟩ (LessR.of rfl (by (repeat' first | exact FrSub.nil | refine FrSub.cons rfl (.ofEq rfl) ?_ | refine FrSub.consP rfl (.ofEq rfl) (by simp) ?_)) (by simp) ?_ rfl rfl hou) fun m j hj => ?_
        · repeat' first | exact LoSub.nil | refine LoSub.cons rfl ?_ rfl (by simp) ?_ | rfl | (refine (AObj.ren_pure _ _ ?_).symm; simp; done) | (simp [AObj.ren, renL, AC.ren, cTy]; done) | (simp [AObj.ren, renL, AC.ren, cTy]; rfl)
        obtain ⟨hjl, hno, rfl⟩ := hj
        repeat first | (with_reducible refine oj ?_; refine AOps.auto tabOk rfl ?_) | (with_reducible first | refine o1 ?_ | refine o2 ?_ | refine o3 ?_ | refine o4 ?_ | refine o5 ?_ | refine o6 ?_ | refine o7 ?_ | refine o8 ?_ | refine o9 ?_ | refine oa ?_ | refine ob ?_ | refine oc ?_ | refine od ?_ | refine oe ?_ | refine og ?_ | refine oh ?_ | refine oi ?_) | (with_reducible refine cExitMiss ?_ ?_; rfl) | (with_reducible refine ok ?_; first | refine ACode.condT rfl ?_ | refine ACode.condF rfl ?_)
        refine ACode.cond rfl (fun hb2 => ?_) (fun hb2 => ?_)
        · have hlt : j < l.length := by simpa using hb2
          obtain ⟨a, ha⟩ := get_of_lt hlt
          have hm := hls a (List.mem_of_getElem? ha)
          repeat first | (with_reducible refine oj ?_; refine AOps.auto tabOk rfl ?_) | (with_reducible first | refine o1 ?_ | refine o2 ?_ | refine o3 ?_ | refine o4 ?_ | refine o5 ?_ | refine o6 ?_ | refine o7 ?_ | refine o8 ?_ | refine o9 ?_ | refine oa ?_ | refine ob ?_ | refine oc ?_ | refine od ?_ | refine oe ?_ | refine og ?_ | refine oh ?_ | refine oi ?_) | (with_reducible refine cExitMiss ?_ ?_; rfl) | (with_reducible refine ok ?_; first | refine ACode.condT rfl ?_ | refine ACode.condF rfl ?_)
          refine AOps.step1 rfl rfl rfl (AStep.indexAddr tabOk rfl rfl rfl rfl rfl rfl (.inl rfl) rfl (by omega) (by simpa using map_get ha)) ?_
          repeat first | (with_reducible refine oj ?_; refine AOps.auto tabOk rfl ?_) | (with_reducible first | refine o1 ?_ | refine o2 ?_ | refine o3 ?_ | refine o4 ?_ | refine o5 ?_ | refine o6 ?_ | refine o7 ?_ | refine o8 ?_ | refine o9 ?_ | refine oa ?_ | refine ob ?_ | refine oc ?_ | refine od ?_ | refine oe ?_ | refine og ?_ | refine oh ?_ | refine oi ?_) | (with_reducible refine cExitMiss ?_ ?_; rfl) | (with_reducible refine ok ?_; first | refine ACode.condT rfl ?_ | refine ACode.condF rfl ?_)
          refine ACode.cond rfl (fun hb3 => ?_) (fun hb3 => ?_)
          · have hfm : findMap l n = some a := find_at hno ha hb3
            repeat first | (with_reducible refine oj ?_; refine AOps.auto tabOk rfl ?_) | (with_reducible first | refine o1 ?_ | refine o2 ?_ | refine o3 ?_ | refine o4 ?_ | refine o5 ?_ | refine o6 ?_ | refine o7 ?_ | refine o8 ?_ | refine o9 ?_ | refine oa ?_ | refine ob ?_ | refine oc ?_ | refine od ?_ | refine oe ?_ | refine og ?_ | refine oh ?_ | refine oi ?_) | (with_reducible refine cExitMiss ?_ ?_; rfl) | (with_reducible refine ok ?_; first | refine ACode.condT rfl ?_ | refine ACode.condF rfl ?_)
            refine AOps.wk 50 rfl (WkF.one (Wk.gs _ _ _)) ?_
            refine AOps.callC hΓ (filled_ok hΓ (substTys l ts) (by omega) a.ty hm.1 hm.2) rfl rfl rfl rfl rfl rfl rfl hou (by simp) ?_
            repeat first | (with_reducible refine oj ?_; refine AOps.auto tabOk rfl ?_) | (with_reducible first | refine o1 ?_ | refine o2 ?_ | refine o3 ?_ | refine o4 ?_ | refine o5 ?_ | refine o6 ?_ | refine o7 ?_ | refine o8 ?_ | refine o9 ?_ | refine oa ?_ | refine ob ?_ | refine oc ?_ | refine od ?_ | refine oe ?_ | refine og ?_ | refine oh ?_ | refine oi ?_) | (with_reducible refine cExitMiss ?_ ?_; rfl) | (with_reducible refine ok ?_; first | refine ACode.condT rfl ?_ | refine ACode.condF rfl ?_)
            refine APure.fin rfl (WkF.ofEq ?_) (ids_cTy _ _) hou rfl
            have hf : substTy l (.mk k n v ts) = fillTy (substTys l ts) a.ty := by simp [substTy, hk, hfm]
            rw [hf]; rfl
          · repeat first | (with_reducible refine oj ?_; refine AOps.auto tabOk rfl ?_) | (with_reducible first | refine o1 ?_ | refine o2 ?_ | refine o3 ?_ | refine o4 ?_ | refine o5 ?_ | refine o6 ?_ | refine o7 ?_ | refine o8 ?_ | refine o9 ?_ | refine oa ?_ | refine ob ?_ | refine oc ?_ | refine od ?_ | refine oe ?_ | refine og ?_ | refine oh ?_ | refine oi ?_) | (with_reducible refine cExitMiss ?_ ?_; rfl) | (with_reducible refine ok ?_; first | refine ACode.condT rfl ?_ | refine ACode.condF rfl ?_)
            refine AOps.step1 rfl rfl rfl (AStep.arith rfl rfl rfl (.inl ⟨rfl, rfl⟩) (inRange_i64 (by omega) (by omega))) ?_
            repeat first | (with_reducible refine oj ?_; refine AOps.auto tabOk rfl ?_) | (with_reducible first | refine o1 ?_ | refine o2 ?_ | refine o3 ?_ | refine o4 ?_ | refine o5 ?_ | refine o6 ?_ | refine o7 ?_ | refine o8 ?_ | refine o9 ?_ | refine oa ?_ | refine ob ?_ | refine oc ?_ | refine od ?_ | refine oe ?_ | refine og ?_ | refine oh ?_ | refine oi ?_) | (with_reducible refine cExitMiss ?_ ?_; rfl) | (with_reducible refine ok ?_; first | refine ACode.condT rfl ?_ | refine ACode.condF rfl ?_)
            refine cInv ⟨l.length - (j + 1), j + 1, id, by omega, ⟨by omega, ?_, rfl⟩, LessR.of rfl (by (repeat' first | exact FrSub.nil | refine FrSub.cons rfl (.ofEq rfl) ?_ | refine FrSub.consP rfl (.ofEq rfl) (by simp) ?_)) (by simp) ?_ rfl rfl hou⟩
            · intro x hx
              rw [List.take_add_one, ha] at hx
              rcases List.mem_append.1 hx with h | h
              · exact hno x h
              · simp at h; subst h; exact hb3
            · repeat' first | exact LoSub.nil | refine LoSub.cons rfl ?_ rfl (by simp) ?_ | rfl | (refine (AObj.ren_pure _ _ ?_).symm; simp; done) | (simp [AObj.ren, renL, AC.ren, cTy]; done) | (simp [AObj.ren, renL, AC.ren, cTy]; rfl)
        · have hlt : j = l.length := by simp at hb2; omega
          subst hlt
          have hfm : findMap l n = none := find_none_take hno
          repeat first | (with_reducible refine oj ?_; refine AOps.auto tabOk rfl ?_) | (with_reducible first | refine o1 ?_ | refine o2 ?_ | refine o3 ?_ | refine o4 ?_ | refine o5 ?_ | refine o6 ?_ | refine o7 ?_ | refine o8 ?_ | refine o9 ?_ | refine oa ?_ | refine ob ?_ | refine oc ?_ | refine od ?_ | refine oe ?_ | refine og ?_ | refine oh ?_ | refine oi ?_) | (with_reducible refine cExitMiss ?_ ?_; rfl) | (with_reducible refine ok ?_; first | refine ACode.condT rfl ?_ | refine ACode.condF rfl ?_)
          refine APure.fin rfl (WkF.agg ?_) (ids_cTy _ _) hou rfl
          have hf : substTy l (.mk k n v ts) = .mk k n v (substTys l ts) := by simp [substTy, hfm]
          rw [hf]
          exact .cons (.refl _) <| .cons (.refl _) <| .cons (.refl _) <| .cons (.gsE rfl) .nil
      · have hk : k ≠ 1 := by simpa using hb
        repeat first | (with_reducible refine oj ?_; refine AOps.auto tabOk rfl ?_) | (with_reducible first | refine o1 ?_ | refine o2 ?_ | refine o3 ?_ | refine o4 ?_ | refine o5 ?_ | refine o6 ?_ | refine o7 ?_ | refine o8 ?_ | refine o9 ?_ | refine oa ?_ | refine ob ?_ | refine oc ?_ | refine od ?_ | refine oe ?_ | refine og ?_ | refine oh ?_ | refine oi ?_) | (with_reducible refine cExitMiss ?_ ?_; rfl) | (with_reducible refine ok ?_; first | refine ACode.condT rfl ?_ | refine ACode.condF rfl ?_)
        refine APure.fin rfl (WkF.agg ?_) (ids_cTy _ _) hou rfl
        have hf : substTy l (.mk k n v ts) = .mk k n v (substTys l ts) := by simp [substTy, hk]
        rw [hf]
        exact .cons (.refl _) <| .cons (.refl _) <| .cons (.refl _) <| .cons (.gsE rfl) .nil
end Go.Proofs.YtoojdmgbffnmiaaDoor
/- slices.EqualFunc, at two instances: what it computes. -/
namespace Go.Proofs.YtoojdmgbffnmiaaDoor
open Go Go.Abs
set_option maxRecDepth 10000
set_option linter.unusedVariables false
set_option linter.unusedSimpArgs false
variable {Γ : List (Nat × List AC)}
def eqL {α : Type} (p : α → α → Bool) : List α → List α → Bool
  | [], [] => true
  | a :: as', b :: bs => p a b && eqL p as' bs
  | _, _ => false
theorem eqL_len {α : Type} {p : α → α → Bool} : ∀ {xs ys : List α}, xs.length ≠ ys.length → eqL p xs ys = false
  | [], [], h => (h rfl).elim
  | a :: xs, b :: ys, h => by simp only [eqL]; rw [eqL_len (by simpa using h)]; simp
  | [], _ :: _, _ => rfl
  | _ :: _, [], _ => rfl
theorem eqL_false {α : Type} {p : α → α → Bool} : ∀ {xs ys : List α} {j : Nat} {a b : α}, xs[j]? = some a → ys[j]? = some b → p a b = false → eqL p xs ys = false
  | [], _, j, a, b, h, _, _ => by simp at h
  | x :: xs, [], j, a, b, _, h, _ => by simp at h
  | x :: xs, y :: ys, 0, a, b, h, h', hp => by simp at h h'; subst h; subst h'; simp [eqL, hp]
  | x :: xs, y :: ys, j + 1, a, b, h, h', hp => by simp only [eqL]; rw [eqL_false (xs := xs) (ys := ys) (by simpa using h) (by simpa using h') hp]; simp
theorem eqL_succ {α : Type} {p : α → α → Bool} : ∀ {xs ys : List α} {j : Nat} {a b : α}, xs[j]? = some a → ys[j]? = some b → eqL p (xs.take (j + 1)) (ys.take (j + 1)) = (eqL p (xs.take j) (ys.take j) && p a b)
  | [], _, j, a, b, h, _ => by simp at h
  | x :: xs, [], j, a, b, _, h => by simp at h
  | x :: xs, y :: ys, 0, a, b, h, h' => by simp at h h'; subst h; subst h'; simp [eqL]
  | x :: xs, y :: ys, j + 1, a, b, h, h' => by
    simp only [List.take_succ_cons, eqL]
    rw [eqL_succ (xs := xs) (ys := ys) (by simpa using h) (by simpa using h'), Bool.and_assoc]

theorem EqualFunc73_ok (hΓ : ∀ g cs, (g, cs) ∈ Γ → idsL isO cs) (gf : Nat) (p : Ty → Ty → Bool) (xs ys : List Ty) (hx : xs.length ≤ 1048576) (hf : ∀ a ∈ xs, ∀ b ∈ ys, APure Tryd.prog Γ gf [.agg (cTy a), .agg (cTy b)] (.one (.lit (.bool (p a b))))) :
    APure Tryd.prog Γ 73 [.one (.sl 4 (encTys xs)), .one (.sl 4 (encTys ys)), .one (.fn (.func gf) [] [])] (.one (.lit (.bool (eqL p xs ys)))) := by
  intro ou
  refine AFn.walk 32 tabOk Tryd.func73 rfl (by kernel_rfl) rfl rfl fun hou => ?_
  repeat first | (with_reducible refine oj ?_; refine AOps.auto tabOk rfl ?_) | (with_reducible first | refine o1 ?_ | refine o2 ?_ | refine o3 ?_ | refine o4 ?_ | refine o5 ?_ | refine o6 ?_ | refine o7 ?_ | refine o8 ?_ | refine o9 ?_ | refine oa ?_ | refine ob ?_ | refine oc ?_ | refine od ?_ | refine oe ?_ | refine og ?_ | refine oh ?_ | refine oi ?_) | (with_reducible refine cExitMiss ?_ ?_; rfl) | (with_reducible refine ok ?_; first | refine ACode.condT rfl ?_ | refine ACode.condF rfl ?_)
  refine ACode.cond rfl (fun hb => ?_) (fun hb => ?_)
  · have hne : xs.length ≠ ys.length := by simp at hb; omega
    repeat first | (with_reducible refine oj ?_; refine AOps.auto tabOk rfl ?_) | (with_reducible first | refine o1 ?_ | refine o2 ?_ | refine o3 ?_ | refine o4 ?_ | refine o5 ?_ | refine o6 ?_ | refine o7 ?_ | refine o8 ?_ | refine o9 ?_ | refine oa ?_ | refine ob ?_ | refine oc ?_ | refine od ?_ | refine oe ?_ | refine og ?_ | refine oh ?_ | refine oi ?_) | (with_reducible refine cExitMiss ?_ ?_; rfl) | (with_reducible refine ok ?_; first | refine ACode.condT rfl ?_ | refine ACode.condF rfl ?_)
    refine APure.fin rfl (WkF.ofEq ?_) trivial hou rfl
    rw [eqL_len hne]
  · have hle : xs.length = ys.length := by simp at hb; omega
    repeat first | (with_reducible refine oj ?_; refine AOps.auto tabOk rfl ?_) | (with_reducible first | refine o1 ?_ | refine o2 ?_ | refine o3 ?_ | refine o4 ?_ | refine o5 ?_ | refine o6 ?_ | refine o7 ?_ | refine o8 ?_ | refine o9 ?_ | refine oa ?_ | refine ob ?_ | refine oc ?_ | refine od ?_ | refine oe ?_ | refine og ?_ | refine oh ?_ | refine oi ?_) | (with_reducible refine cExitMiss ?_ ?_; rfl) | (with_reducible refine ok ?_; first | refine ACode.condT rfl ?_ | refine ACode.condF rfl ?_)
    refine ACode.loopR hΓ (α := Nat) (fun j => [(17, .one (int j)), (16, .one (int (encTys xs).length)), (15, .one (.sl 4 (encTys xs))), (2, .one (.fn (.func gf) [] [])), (1, .one (.sl 4 (encTys ys)))])
      (fun j => ⟨0, [], ou⟩) (fun m j => j ≤ xs.length ∧ eqL p (xs.take j) (ys.take j) = true ∧ m = xs.length - j) (a0 := 0) (ρ := id) ⟨by omega, by simp [eqL], rfl⟩ (LessR.of rfl (by (repeat' first | exact FrSub.nil | refine FrSub.cons rfl (.ofEq rfl) ?_ | refine FrSub.consP rfl (.ofEq rfl) (by simp) ?_)) (by simp) (by repeat' first | exact LoSub.nil | refine LoSub.cons rfl ?_ rfl (by simp) ?_ | rfl | (refine (AObj.ren_pure _ _ ?_).symm; simp; done) | (simp [AObj.ren, renL, AC.ren, cTy]; done) | (simp [AObj.ren, renL, AC.ren, cTy]; rfl)) rfl rfl hou) fun m j hj => ?_
    obtain ⟨hjl, he, rfl⟩ := hj
    repeat first | (with_reducible refine oj ?_; refine AOps.auto tabOk rfl ?_) | (with_reducible first | refine o1 ?_ | refine o2 ?_ | refine o3 ?_ | refine o4 ?_ | refine o5 ?_ | refine o6 ?_ | refine o7 ?_ | refine o8 ?_ | refine o9 ?_ | refine oa ?_ | refine ob ?_ | refine oc ?_ | refine od ?_ | refine oe ?_ | refine og ?_ | refine oh ?_ | refine oi ?_) | (with_reducible refine cExitMiss ?_ ?_; rfl) | (with_reducible refine ok ?_; first | refine ACode.condT rfl ?_ | refine ACode.condF rfl ?_)
    refine ACode.cond rfl (fun hb2 => ?_) (fun hb2 => ?_)
    · have hlt : j < xs.length := by simpa using hb2
      obtain ⟨a, ha⟩ := get_of_lt hlt
      obtain ⟨b, hb'⟩ := get_of_lt (l := ys) (i := j) (by omega)
      have hca := hf a (List.mem_of_getElem? ha) b (List.mem_of_getElem? hb')
      repeat first | (with_reducible refine oj ?_; refine AOps.auto tabOk rfl ?_) | (with_reducible first | refine o1 ?_ | refine o2 ?_ | refine o3 ?_ | refine o4 ?_ | refine o5 ?_ | refine o6 ?_ | refine o7 ?_ | refine o8 ?_ | refine o9 ?_ | refine oa ?_ | refine ob ?_ | refine oc ?_ | refine od ?_ | refine oe ?_ | refine og ?_ | refine oh ?_ | refine oi ?_) | (with_reducible refine cExitMiss ?_ ?_; rfl) | (with_reducible refine ok ?_; first | refine ACode.condT rfl ?_ | refine ACode.condF rfl ?_)
      refine AOps.step1 rfl rfl rfl (AStep.indexAddr tabOk rfl rfl rfl rfl rfl rfl (.inl rfl) rfl (by omega) (by simpa using encTys_get ha)) ?_
      repeat first | (with_reducible refine oj ?_; refine AOps.auto tabOk rfl ?_) | (with_reducible first | refine o1 ?_ | refine o2 ?_ | refine o3 ?_ | refine o4 ?_ | refine o5 ?_ | refine o6 ?_ | refine o7 ?_ | refine o8 ?_ | refine o9 ?_ | refine oa ?_ | refine ob ?_ | refine oc ?_ | refine od ?_ | refine oe ?_ | refine og ?_ | refine oh ?_ | refine oi ?_) | (with_reducible refine cExitMiss ?_ ?_; rfl) | (with_reducible refine ok ?_; first | refine ACode.condT rfl ?_ | refine ACode.condF rfl ?_)
      refine AOps.step1 rfl rfl rfl (AStep.indexAddr tabOk rfl rfl rfl rfl rfl rfl (.inl rfl) rfl (by omega) (by simpa using encTys_get hb')) ?_
      repeat first | (with_reducible refine oj ?_; refine AOps.auto tabOk rfl ?_) | (with_reducible first | refine o1 ?_ | refine o2 ?_ | refine o3 ?_ | refine o4 ?_ | refine o5 ?_ | refine o6 ?_ | refine o7 ?_ | refine o8 ?_ | refine o9 ?_ | refine oa ?_ | refine ob ?_ | refine oc ?_ | refine od ?_ | refine oe ?_ | refine og ?_ | refine oh ?_ | refine oi ?_) | (with_reducible refine cExitMiss ?_ ?_; rfl) | (with_reducible refine ok ?_; first | refine ACode.condT rfl ?_ | refine ACode.condF rfl ?_)
      refine AOps.callC hΓ hca rfl rfl rfl rfl rfl rfl rfl hou (by simp) ?_
      repeat first | (with_reducible refine oj ?_; refine AOps.auto tabOk rfl ?_) | (with_reducible first | refine o1 ?_ | refine o2 ?_ | refine o3 ?_ | refine o4 ?_ | refine o5 ?_ | refine o6 ?_ | refine o7 ?_ | refine o8 ?_ | refine o9 ?_ | refine oa ?_ | refine ob ?_ | refine oc ?_ | refine od ?_ | refine oe ?_ | refine og ?_ | refine oh ?_ | refine oi ?_) | (with_reducible refine cExitMiss ?_ ?_; rfl) | (with_reducible refine ok ?_; first | refine ACode.condT rfl ?_ | refine ACode.condF rfl ?_)
      refine ACode.cond rfl (fun hb3 => ?_) (fun hb3 => ?_)
      · repeat first | (with_reducible refine oj ?_; refine AOps.auto tabOk rfl ?_) | (with_reducible first | refine o1 ?_ | refine o2 ?_ | refine o3 ?_ | refine o4 ?_ | refine o5 ?_ | refine o6 ?_ | refine o7 ?_ | refine o8 ?_ | refine o9 ?_ | refine oa ?_ | refine ob ?_ | refine oc ?_ | refine od ?_ | refine oe ?_ | refine og ?_ | refine oh ?_ | refine oi ?_) | (with_reducible refine cExitMiss ?_ ?_; rfl) | (with_reducible refine ok ?_; first | refine ACode.condT rfl ?_ | refine ACode.condF rfl ?_)
        refine APure.fin rfl (WkF.ofEq ?_) trivial hou rfl
        have hp : p a b = false := by simpa using hb3
        rw [eqL_false ha hb' hp]
      · have hp : p a b = true := by simpa using hb3
        repeat first | (with_reducible refine oj ?_; refine AOps.auto tabOk rfl ?_) | (with_reducible first | refine o1 ?_ | refine o2 ?_ | refine o3 ?_ | refine o4 ?_ | refine o5 ?_ | refine o6 ?_ | refine o7 ?_ | refine o8 ?_ | refine o9 ?_ | refine oa ?_ | refine ob ?_ | refine oc ?_ | refine od ?_ | refine oe ?_ | refine og ?_ | refine oh ?_ | refine oi ?_) | (with_reducible refine cExitMiss ?_ ?_; rfl) | (with_reducible refine ok ?_; first | refine ACode.condT rfl ?_ | refine ACode.condF rfl ?_)
        refine AOps.step1 rfl rfl rfl (AStep.arith rfl rfl rfl (.inl ⟨rfl, rfl⟩) (inRange_i64 (by omega) (by omega))) ?_
        repeat first | (with_reducible refine oj ?_; refine AOps.auto tabOk rfl ?_) | (with_reducible first | refine o1 ?_ | refine o2 ?_ | refine o3 ?_ | refine o4 ?_ | refine o5 ?_ | refine o6 ?_ | refine o7 ?_ | refine o8 ?_ | refine o9 ?_ | refine oa ?_ | refine ob ?_ | refine oc ?_ | refine od ?_ | refine oe ?_ | refine og ?_ | refine oh ?_ | refine oi ?_) | (with_reducible refine cExitMiss ?_ ?_; rfl) | (with_reducible refine ok ?_; first | refine ACode.condT rfl ?_ | refine ACode.condF rfl ?_)
        exact cInv ⟨xs.length - (j + 1), j + 1, id, by omega, ⟨by omega, by rw [eqL_succ ha hb', he, hp]; rfl, rfl⟩, LessR.of rfl (by (repeat' first | exact FrSub.nil | refine FrSub.cons rfl (.ofEq rfl) ?_ | refine FrSub.consP rfl (.ofEq rfl) (by simp) ?_)) (by simp) (by repeat' first | exact LoSub.nil | refine LoSub.cons rfl ?_ rfl (by simp) ?_ | rfl | (refine (AObj.ren_pure _ _ ?_).symm; simp; done) | (simp [AObj.ren, renL, AC.ren, cTy]; done) | (simp [AObj.ren, renL, AC.ren, cTy]; rfl)) rfl rfl hou⟩
    · have hlt : j = xs.length := by simp at hb2; omega
      subst hlt
      repeat first | (with_reducible refine oj ?_; refine AOps.auto tabOk rfl ?_) | (with_reducible first | refine o1 ?_ | refine o2 ?_ | refine o3 ?_ | refine o4 ?_ | refine o5 ?_ | refine o6 ?_ | refine o7 ?_ | refine o8 ?_ | refine o9 ?_ | refine oa ?_ | refine ob ?_ | refine oc ?_ | refine od ?_ | refine oe ?_ | refine og ?_ | refine oh ?_ | refine oi ?_) | (with_reducible refine cExitMiss ?_ ?_; rfl) | (with_reducible refine ok ?_; first | refine ACode.condT rfl ?_ | refine ACode.condF rfl ?_)
      refine APure.fin rfl (WkF.ofEq ?_) trivial hou rfl
      rw [List.take_length, hle, List.take_length] at he
      rw [he]


theorem EqualFunc54_ok (hΓ : ∀ g cs, (g, cs) ∈ Γ → idsL isO cs) (gf : Nat) (p : CSig → CSig → Bool) (xs ys : List CSig) (hx : xs.length ≤ 1048576) (hf : ∀ a ∈ xs, ∀ b ∈ ys, APure Tryd.prog Γ gf [.agg (cCon a), .agg (cCon b)] (.one (.lit (.bool (p a b))))) :
    APure Tryd.prog Γ 54 [.one (.sl 2 (xs.map cCon)), .one (.sl 2 (ys.map cCon)), .one (.fn (.func gf) [] [])] (.one (.lit (.bool (eqL p xs ys)))) := by
  intro ou
  refine AFn.walk 32 tabOk Tryd.func54 rfl (by kernel_rfl) rfl rfl fun hou => ?_
  repeat first | (with_reducible refine oj ?_; refine AOps.auto tabOk rfl ?_) | (with_reducible first | refine o1 ?_ | refine o2 ?_ | refine o3 ?_ | refine o4 ?_ | refine o5 ?_ | refine o6 ?_ | refine o7 ?_ | refine o8 ?_ | refine o9 ?_ | refine oa ?_ | refine ob ?_ | refine oc ?_ | refine od ?_ | refine oe ?_ | refine og ?_ | refine oh ?_ | refine oi ?_) | (with_reducible refine cExitMiss ?_ ?_; rfl) | (with_reducible refine ok ?_; first | refine ACode.condT rfl ?_ | refine ACode.condF rfl ?_)
  refine ACode.cond rfl (fun hb => ?_) (fun hb => ?_)
  · have hne : xs.length ≠ ys.length := by simp at hb; omega
    repeat first | (with_reducible refine oj ?_; refine AOps.auto tabOk rfl ?_) | (with_reducible first | refine o1 ?_ | refine o2 ?_ | refine o3 ?_ | refine o4 ?_ | refine o5 ?_ | refine o6 ?_ | refine o7 ?_ | refine o8 ?_ | refine o9 ?_ | refine oa ?_ | refine ob ?_ | refine oc ?_ | refine od ?_ | refine oe ?_ | refine og ?_ | refine oh ?_ | refine oi ?_) | (with_reducible refine cExitMiss ?_ ?_; rfl) | (with_reducible refine ok ?_; first | refine ACode.condT rfl ?_ | refine ACode.condF rfl ?_)
    refine APure.fin rfl (WkF.ofEq ?_) trivial hou rfl
    rw [eqL_len hne]
  · have hle : xs.length = ys.length := by simp at hb; omega
    repeat first | (with_reducible refine oj ?_; refine AOps.auto tabOk rfl ?_) | (with_reducible first | refine o1 ?_ | refine o2 ?_ | refine o3 ?_ | refine o4 ?_ | refine o5 ?_ | refine o6 ?_ | refine o7 ?_ | refine o8 ?_ | refine o9 ?_ | refine oa ?_ | refine ob ?_ | refine oc ?_ | refine od ?_ | refine oe ?_ | refine og ?_ | refine oh ?_ | refine oi ?_) | (with_reducible refine cExitMiss ?_ ?_; rfl) | (with_reducible refine ok ?_; first | refine ACode.condT rfl ?_ | refine ACode.condF rfl ?_)
    refine ACode.loopR hΓ (α := Nat) (fun j => [(17, .one (int j)), (16, .one (int (xs.map cCon).length)), (15, .one (.sl 2 (xs.map cCon))), (2, .one (.fn (.func gf) [] [])), (1, .one (.sl 2 (ys.map cCon)))])
      (fun j => ⟨0, [], ou⟩) (fun m j => j ≤ xs.length ∧ eqL p (xs.take j) (ys.take j) = true ∧ m = xs.length - j) (a0 := 0) (ρ := id) ⟨by omega, by simp [eqL], rfl⟩ (LessR.of rfl (by (repeat' first | exact FrSub.nil | refine FrSub.cons rfl (.ofEq rfl) ?_ | refine FrSub.consP rfl (.ofEq rfl) (by simp) ?_)) (by simp) (by repeat' first | exact LoSub.nil | refine LoSub.cons rfl ?_ rfl (by simp) ?_ | rfl | (refine (AObj.ren_pure _ _ ?_).symm; simp; done) | (simp [AObj.ren, renL, AC.ren, cTy]; done) | (simp [AObj.ren, renL, AC.ren, cTy]; rfl)) rfl rfl hou) fun m j hj => ?_
    obtain ⟨hjl, he, rfl⟩ := hj
    repeat first | (with_reducible refine oj ?_; refine AOps.auto tabOk rfl ?_) | (with_reducible first | refine o1 ?_ | refine o2 ?_ | refine o3 ?_ | refine o4 ?_ | refine o5 ?_ | refine o6 ?_ | refine o7 ?_ | refine o8 ?_ | refine o9 ?_ | refine oa ?_ | refine ob ?_ | refine oc ?_ | refine od ?_ | refine oe ?_ | refine og ?_ | refine oh ?_ | refine oi ?_) | (with_reducible refine cExitMiss ?_ ?_; rfl) | (with_reducible refine ok ?_; first | refine ACode.condT rfl ?_ | refine ACode.condF rfl ?_)
    refine ACode.cond rfl (fun hb2 => ?_) (fun hb2 => ?_)
    · have hlt : j < xs.length := by simpa using hb2
      obtain ⟨a, ha⟩ := get_of_lt hlt
      obtain ⟨b, hb'⟩ := get_of_lt (l := ys) (i := j) (by omega)
      have hca := hf a (List.mem_of_getElem? ha) b (List.mem_of_getElem? hb')
      repeat first | (with_reducible refine oj ?_; refine AOps.auto tabOk rfl ?_) | (with_reducible first | refine o1 ?_ | refine o2 ?_ | refine o3 ?_ | refine o4 ?_ | refine o5 ?_ | refine o6 ?_ | refine o7 ?_ | refine o8 ?_ | refine o9 ?_ | refine oa ?_ | refine ob ?_ | refine oc ?_ | refine od ?_ | refine oe ?_ | refine og ?_ | refine oh ?_ | refine oi ?_) | (with_reducible refine cExitMiss ?_ ?_; rfl) | (with_reducible refine ok ?_; first | refine ACode.condT rfl ?_ | refine ACode.condF rfl ?_)
      refine AOps.step1 rfl rfl rfl (AStep.indexAddr tabOk rfl rfl rfl rfl rfl rfl (.inl rfl) rfl (by omega) (by simpa using map_get ha)) ?_
      repeat first | (with_reducible refine oj ?_; refine AOps.auto tabOk rfl ?_) | (with_reducible first | refine o1 ?_ | refine o2 ?_ | refine o3 ?_ | refine o4 ?_ | refine o5 ?_ | refine o6 ?_ | refine o7 ?_ | refine o8 ?_ | refine o9 ?_ | refine oa ?_ | refine ob ?_ | refine oc ?_ | refine od ?_ | refine oe ?_ | refine og ?_ | refine oh ?_ | refine oi ?_) | (with_reducible refine cExitMiss ?_ ?_; rfl) | (with_reducible refine ok ?_; first | refine ACode.condT rfl ?_ | refine ACode.condF rfl ?_)
      refine AOps.step1 rfl rfl rfl (AStep.indexAddr tabOk rfl rfl rfl rfl rfl rfl (.inl rfl) rfl (by omega) (by simpa using map_get hb')) ?_
      repeat first | (with_reducible refine oj ?_; refine AOps.auto tabOk rfl ?_) | (with_reducible first | refine o1 ?_ | refine o2 ?_ | refine o3 ?_ | refine o4 ?_ | refine o5 ?_ | refine o6 ?_ | refine o7 ?_ | refine o8 ?_ | refine o9 ?_ | refine oa ?_ | refine ob ?_ | refine oc ?_ | refine od ?_ | refine oe ?_ | refine og ?_ | refine oh ?_ | refine oi ?_) | (with_reducible refine cExitMiss ?_ ?_; rfl) | (with_reducible refine ok ?_; first | refine ACode.condT rfl ?_ | refine ACode.condF rfl ?_)
      refine AOps.callC hΓ hca rfl rfl rfl rfl rfl rfl rfl hou (by simp) ?_
      repeat first | (with_reducible refine oj ?_; refine AOps.auto tabOk rfl ?_) | (with_reducible first | refine o1 ?_ | refine o2 ?_ | refine o3 ?_ | refine o4 ?_ | refine o5 ?_ | refine o6 ?_ | refine o7 ?_ | refine o8 ?_ | refine o9 ?_ | refine oa ?_ | refine ob ?_ | refine oc ?_ | refine od ?_ | refine oe ?_ | refine og ?_ | refine oh ?_ | refine oi ?_) | (with_reducible refine cExitMiss ?_ ?_; rfl) | (with_reducible refine ok ?_; first | refine ACode.condT rfl ?_ | refine ACode.condF rfl ?_)
      refine ACode.cond rfl (fun hb3 => ?_) (fun hb3 => ?_)
      · repeat first | (with_reducible refine oj ?_; refine AOps.auto tabOk rfl ?_) | (with_reducible first | refine o1 ?_ | refine o2 ?_ | refine o3 ?_ | refine o4 ?_ | refine o5 ?_ | refine o6 ?_ | refine o7 ?_ | refine o8 ?_ | refine o9 ?_ | refine oa ?_ | refine ob ?_ | refine oc ?_ | refine od ?_ | refine oe ?_ | refine og ?_ | refine oh ?_ | refine oi ?_) | (with_reducible refine cExitMiss ?_ ?_; rfl) | (with_reducible refine ok ?_; first | refine ACode.condT rfl ?_ | refine ACode.condF rfl ?_)
        refine APure.fin rfl (WkF.ofEq ?_) trivial hou rfl
        have hp : p a b = false := by simpa using hb3
        rw [eqL_false ha hb' hp]
      · have hp : p a b = true := by simpa using hb3
        repeat first | (with_reducible refine oj ?_; refine AOps.auto tabOk rfl ?_) | (with_reducible first | refine o1 ?_ | refine o2 ?_ | refine o3 ?_ | refine o4 ?_ | refine o5 ?_ | refine o6 ?_ | refine o7 ?_ | refine o8 ?_ | refine o9 ?_ | refine oa ?_ | refine ob ?_ | refine oc ?_ | refine od ?_ | refine oe ?_ | refine og ?_ | refine oh ?_ | refine oi ?_) | (with_reducible refine cExitMiss ?_ ?_; rfl) | (with_reducible refine ok ?_; first | refine ACode.condT rfl ?_ | refine ACode.condF rfl ?_)
        refine AOps.step1 rfl rfl rfl (AStep.arith rfl rfl rfl (.inl ⟨rfl, rfl⟩) (inRange_i64 (by omega) (by omega))) ?_
        repeat first | (with_reducible refine oj ?_; refine AOps.auto tabOk rfl ?_) | (with_reducible first | refine o1 ?_ | refine o2 ?_ | refine o3 ?_ | refine o4 ?_ | refine o5 ?_ | refine o6 ?_ | refine o7 ?_ | refine o8 ?_ | refine o9 ?_ | refine oa ?_ | refine ob ?_ | refine oc ?_ | refine od ?_ | refine oe ?_ | refine og ?_ | refine oh ?_ | refine oi ?_) | (with_reducible refine cExitMiss ?_ ?_; rfl) | (with_reducible refine ok ?_; first | refine ACode.condT rfl ?_ | refine ACode.condF rfl ?_)
        exact cInv ⟨xs.length - (j + 1), j + 1, id, by omega, ⟨by omega, by rw [eqL_succ ha hb', he, hp]; rfl, rfl⟩, LessR.of rfl (by (repeat' first | exact FrSub.nil | refine FrSub.cons rfl (.ofEq rfl) ?_ | refine FrSub.consP rfl (.ofEq rfl) (by simp) ?_)) (by simp) (by repeat' first | exact LoSub.nil | refine LoSub.cons rfl ?_ rfl (by simp) ?_ | rfl | (refine (AObj.ren_pure _ _ ?_).symm; simp; done) | (simp [AObj.ren, renL, AC.ren, cTy]; done) | (simp [AObj.ren, renL, AC.ren, cTy]; rfl)) rfl rfl hou⟩
    · have hlt : j = xs.length := by simp at hb2; omega
      subst hlt
      repeat first | (with_reducible refine oj ?_; refine AOps.auto tabOk rfl ?_) | (with_reducible first | refine o1 ?_ | refine o2 ?_ | refine o3 ?_ | refine o4 ?_ | refine o5 ?_ | refine o6 ?_ | refine o7 ?_ | refine o8 ?_ | refine o9 ?_ | refine oa ?_ | refine ob ?_ | refine oc ?_ | refine od ?_ | refine oe ?_ | refine og ?_ | refine oh ?_ | refine oi ?_) | (with_reducible refine cExitMiss ?_ ?_; rfl) | (with_reducible refine ok ?_; first | refine ACode.condT rfl ?_ | refine ACode.condF rfl ?_)
      refine APure.fin rfl (WkF.ofEq ?_) trivial hou rfl
      rw [List.take_length, hle, List.take_length] at he
      rw [he]

end Go.Proofs.YtoojdmgbffnmiaaDoor
/- sameType and sameCon: what they compute. -/
namespace Go.Proofs.YtoojdmgbffnmiaaDoor
open Go Go.Abs
set_option maxRecDepth 10000
set_option linter.unusedVariables false
set_option linter.unusedSimpArgs false
variable {Γ : List (Nat × List AC)}
mutual
def sameTy : Ty → Ty → Bool
  | .mk k n v us, t => k == t.kind && (k != 0 || v == t.var) && ((k != 1 && k != 5) || n.toList == t.name.toList) && sameTys us t.args
def sameTys : List Ty → List Ty → Bool
  | [], [] => true
  | a :: us, b :: vs => sameTy a b && sameTys us vs
  | [], _ :: _ => false
  | _ :: _, [] => false
end
theorem sameTys_eq : ∀ {us vs : List Ty}, sameTys us vs = eqL sameTy us vs
  | [], [] => by simp [sameTys, eqL]
  | a :: us, b :: vs => by simp only [sameTys, eqL]; rw [sameTys_eq]
  | [], _ :: _ => by simp [sameTys, eqL]
  | _ :: _, [] => by simp [sameTys, eqL]
theorem sameType_ok (hΓ : ∀ g cs, (g, cs) ∈ Γ → idsL isO cs) : ∀ (a b : Ty) (ha : smallTy a), APure Tryd.prog Γ 74 [.agg (cTy a), .agg (cTy b)] (.one (.lit (.bool (sameTy a b))))
  | .mk k n v us, b, ha => by
    have ih : ∀ x ∈ us, ∀ y ∈ b.args, APure Tryd.prog Γ 74 [.agg (cTy x), .agg (cTy y)] (.one (.lit (.bool (sameTy x y)))) := fun x hx y hy =>
      sameType_ok hΓ x y (smallTys_iff.1 ha.2 x hx)
    intro ou
    refine AFn.walk 46 tabOk Tryd.func74 rfl (by kernel_rfl) rfl rfl fun hou => ?_
    repeat' first | (with_reducible refine oj ?_; refine AOps.auto tabOk rfl ?_) | (with_reducible first | refine o1 ?_ | refine o2 ?_ | refine o3 ?_ | refine o4 ?_ | refine o5 ?_ | refine o6 ?_ | refine o7 ?_ | refine o8 ?_ | refine o9 ?_ | refine oa ?_ | refine ob ?_ | refine oc ?_ | refine od ?_ | refine oe ?_ | refine og ?_ | refine oh ?_ | refine oi ?_) | (with_reducible refine cExitMiss ?_ ?_; rfl) | (with_reducible refine ok ?_; first | refine ACode.condT rfl ?_ | refine ACode.condF rfl ?_) | (with_reducible refine oj ?_; refine AOps.splitS rfl rfl rfl rfl (fun hb => ?_) (fun hb => ?_)) | (with_reducible refine ok ?_; refine ACode.cond rfl (fun hb => ?_) (fun hb => ?_))
    all_goals first
      | (with_reducible refine AOps.here ?_
         refine AOps.splitG rfl rfl rfl (fun hz => ?_) (fun hz => ?_)
         · refine AOps.callG hΓ (EqualFunc73_ok hΓ 74 sameTy us b.args ha.1 ih) rfl rfl rfl rfl rfl rfl rfl rfl rfl hou (by simp) ?_
           repeat first | (with_reducible refine oj ?_; refine AOps.auto tabOk rfl ?_) | (with_reducible first | refine o1 ?_ | refine o2 ?_ | refine o3 ?_ | refine o4 ?_ | refine o5 ?_ | refine o6 ?_ | refine o7 ?_ | refine o8 ?_ | refine o9 ?_ | refine oa ?_ | refine ob ?_ | refine oc ?_ | refine od ?_ | refine oe ?_ | refine og ?_ | refine oh ?_ | refine oi ?_) | (with_reducible refine cExitMiss ?_ ?_; rfl) | (with_reducible refine ok ?_; first | refine ACode.condT rfl ?_ | refine ACode.condF rfl ?_)
           refine APure.fin rfl (WkF.ofEq ?_) trivial hou rfl
           congr 3
           simp_all [sameTy, sameTys_eq]
         · repeat first | (with_reducible refine oj ?_; refine AOps.auto tabOk rfl ?_) | (with_reducible first | refine o1 ?_ | refine o2 ?_ | refine o3 ?_ | refine o4 ?_ | refine o5 ?_ | refine o6 ?_ | refine o7 ?_ | refine o8 ?_ | refine o9 ?_ | refine oa ?_ | refine ob ?_ | refine oc ?_ | refine od ?_ | refine oe ?_ | refine og ?_ | refine oh ?_ | refine oi ?_) | (with_reducible refine cExitMiss ?_ ?_; rfl) | (with_reducible refine ok ?_; first | refine ACode.condT rfl ?_ | refine ACode.condF rfl ?_)
           refine APure.fin rfl (WkF.ofEq ?_) trivial hou rfl
           congr 3
           simp_all [sameTy, sameTys_eq])
      | (refine APure.fin rfl (WkF.ofEq ?_) trivial hou rfl
         congr 3
         simp_all [sameTy, sameTys_eq])
theorem sameCon_ok (hΓ : ∀ g cs, (g, cs) ∈ Γ → idsL isO cs) (a b : CSig) (ha : a.args.length ≤ 1048576) (hs : smallTys a.args) : APure Tryd.prog Γ 55 [.agg (cCon a), .agg (cCon b)] (.one (.lit (.bool (a.name.toList == b.name.toList && sameTys a.args b.args)))) := by
  intro ou
  refine AFn.walk 17 tabOk Tryd.func55 rfl (by kernel_rfl) rfl rfl fun hou => ?_
  have hc := EqualFunc73_ok hΓ 74 sameTy a.args b.args ha (fun x hx y hy => sameType_ok hΓ x y (smallTys_iff.1 hs x hx))
  repeat' first | (with_reducible refine oj ?_; refine AOps.auto tabOk rfl ?_) | (with_reducible first | refine o1 ?_ | refine o2 ?_ | refine o3 ?_ | refine o4 ?_ | refine o5 ?_ | refine o6 ?_ | refine o7 ?_ | refine o8 ?_ | refine o9 ?_ | refine oa ?_ | refine ob ?_ | refine oc ?_ | refine od ?_ | refine oe ?_ | refine og ?_ | refine oh ?_ | refine oi ?_) | (with_reducible refine cExitMiss ?_ ?_; rfl) | (with_reducible refine ok ?_; first | refine ACode.condT rfl ?_ | refine ACode.condF rfl ?_) | (with_reducible refine oj ?_; refine AOps.splitS rfl rfl rfl rfl (fun hb => ?_) (fun hb => ?_)) | (with_reducible refine ok ?_; refine ACode.cond rfl (fun hb => ?_) (fun hb => ?_))
  · refine AOps.callG hΓ hc rfl rfl rfl rfl rfl rfl rfl rfl rfl hou (by simp) ?_
    repeat first | (with_reducible refine oj ?_; refine AOps.auto tabOk rfl ?_) | (with_reducible first | refine o1 ?_ | refine o2 ?_ | refine o3 ?_ | refine o4 ?_ | refine o5 ?_ | refine o6 ?_ | refine o7 ?_ | refine o8 ?_ | refine o9 ?_ | refine oa ?_ | refine ob ?_ | refine oc ?_ | refine od ?_ | refine oe ?_ | refine og ?_ | refine oh ?_ | refine oi ?_) | (with_reducible refine cExitMiss ?_ ?_; rfl) | (with_reducible refine ok ?_; first | refine ACode.condT rfl ?_ | refine ACode.condF rfl ?_)
    refine APure.fin rfl (WkF.ofEq ?_) trivial hou rfl
    simp [sameTys_eq, hb]
  · refine APure.fin rfl (WkF.ofEq ?_) trivial hou rfl
    simp [hb]
end Go.Proofs.YtoojdmgbffnmiaaDoor

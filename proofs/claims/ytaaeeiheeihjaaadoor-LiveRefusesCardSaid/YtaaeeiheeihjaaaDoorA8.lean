/- The road to a card of this seat: TabD, Back, W, Pop, Bit, Sort, Str, T10, Back2, Cmp, SetL, Reach. Each theorem holds for every input that its own premises speak of. -/
import Derived.Test.YtaaeeiheeihjaaaDoorA7
import Derived.KernelRfl
import Derived.Test.YtaaeeiheeihjaaaDoorProg
set_option linter.all false
namespace Go.Ab
open Go.Proofs
instance : TyI Tryd.prog 3 false 1 := ⟨by kernel_rfl, by kernel_rfl⟩
instance : ByI Tryd.prog 3 8 (.int .i64 0) := ⟨by kernel_rfl, by kernel_rfl⟩
instance : TyI Tryd.prog 4 false 1 := ⟨by kernel_rfl, by kernel_rfl⟩
instance : ByI Tryd.prog 4 1 (.bool false) := ⟨by kernel_rfl, by kernel_rfl⟩
instance : TyI Tryd.prog 5 false 1 := ⟨by kernel_rfl, by kernel_rfl⟩
instance : ByI Tryd.prog 5 1 (.int .u8 0) := ⟨by kernel_rfl, by kernel_rfl⟩
instance : TyI Tryd.prog 9 false 1 := ⟨by kernel_rfl, by kernel_rfl⟩
instance : ByI Tryd.prog 9 16 (.string ByteArray.empty) := ⟨by kernel_rfl, by kernel_rfl⟩
instance : TyI Tryd.prog 21 false 1 := ⟨by kernel_rfl, by kernel_rfl⟩
instance : ByI Tryd.prog 21 4 (.int .i32 0) := ⟨by kernel_rfl, by kernel_rfl⟩
instance : TyI Tryd.prog 22 false 1 := ⟨by kernel_rfl, by kernel_rfl⟩
instance : ElI Tryd.prog 22 5 := ⟨by kernel_rfl, by kernel_rfl⟩
instance : ByI Tryd.prog 22 24 (.slice none 0 0) := ⟨by kernel_rfl, by kernel_rfl⟩
instance : TyI Tryd.prog 24 true 1 := ⟨by kernel_rfl, by kernel_rfl⟩
instance : ByI Tryd.prog 24 24 (.agg #[.slice none 0 0]) := ⟨by kernel_rfl, by kernel_rfl⟩
instance : TyI Tryd.prog 26 true 3 := ⟨by kernel_rfl, by kernel_rfl⟩
instance : ByI Tryd.prog 26 3 (.agg #[.int .u8 0, .int .u8 0, .int .u8 0]) := ⟨by kernel_rfl, by kernel_rfl⟩
instance : StI Tryd.prog 26 (fun i => ([(0, 1), (1, 1), (2, 1)] : List (Nat × Nat))[i]?) (.agg #[.int .u8 0, .int .u8 0, .int .u8 0]) := sti_struct (by kernel_rfl) (by rfl) (by kernel_rfl)
instance : TyI Tryd.prog 27 true 6 := ⟨by kernel_rfl, by kernel_rfl⟩
instance : ArI Tryd.prog 27 2 26 := ⟨by kernel_rfl⟩
instance : ByI Tryd.prog 27 6 (.agg #[.int .u8 0, .int .u8 0, .int .u8 0, .int .u8 0, .int .u8 0, .int .u8 0]) := ⟨by kernel_rfl, by kernel_rfl⟩
instance : TyI Tryd.prog 28 false 1 := ⟨by kernel_rfl, by kernel_rfl⟩
instance : ByI Tryd.prog 28 2 (.int .u16 0) := ⟨by kernel_rfl, by kernel_rfl⟩
instance : TyI Tryd.prog 30 false 1 := ⟨by kernel_rfl, by kernel_rfl⟩
instance : ElI Tryd.prog 30 121 := ⟨by kernel_rfl, by kernel_rfl⟩
instance : ByI Tryd.prog 30 24 (.slice none 0 0) := ⟨by kernel_rfl, by kernel_rfl⟩
instance : TyI Tryd.prog 31 false 1 := ⟨by kernel_rfl, by kernel_rfl⟩
instance : ElI Tryd.prog 31 125 := ⟨by kernel_rfl, by kernel_rfl⟩
instance : ByI Tryd.prog 31 24 (.slice none 0 0) := ⟨by kernel_rfl, by kernel_rfl⟩
instance : TyI Tryd.prog 32 false 1 := ⟨by kernel_rfl, by kernel_rfl⟩
instance : ElI Tryd.prog 32 64 := ⟨by kernel_rfl, by kernel_rfl⟩
instance : ByI Tryd.prog 32 24 (.slice none 0 0) := ⟨by kernel_rfl, by kernel_rfl⟩
instance : TyI Tryd.prog 34 true 8 := ⟨by kernel_rfl, by kernel_rfl⟩
instance : ByI Tryd.prog 34 112 (.agg #[.int .i64 0, .int .i64 0, .int .i64 0, .int .i64 0, .int .i64 0, .slice none 0 0, .slice none 0 0, .slice none 0 0]) := ⟨by kernel_rfl, by kernel_rfl⟩
instance : StI Tryd.prog 34 (fun i => ([(0, 1), (1, 1), (2, 1), (3, 1), (4, 1), (5, 1), (6, 1), (7, 1)] : List (Nat × Nat))[i]?) (.agg #[.int .i64 0, .int .i64 0, .int .i64 0, .int .i64 0, .int .i64 0, .slice none 0 0, .slice none 0 0, .slice none 0 0]) := sti_struct (by kernel_rfl) (by rfl) (by kernel_rfl)
instance : TyI Tryd.prog 36 false 1 := ⟨by kernel_rfl, by kernel_rfl⟩
instance : ElI Tryd.prog 36 47 := ⟨by kernel_rfl, by kernel_rfl⟩
instance : ByI Tryd.prog 36 24 (.slice none 0 0) := ⟨by kernel_rfl, by kernel_rfl⟩
instance : TyI Tryd.prog 38 true 2 := ⟨by kernel_rfl, by kernel_rfl⟩
instance : ByI Tryd.prog 38 48 (.agg #[.slice none 0 0, .slice none 0 0]) := ⟨by kernel_rfl, by kernel_rfl⟩
instance : StI Tryd.prog 38 (fun i => ([(0, 1), (1, 1)] : List (Nat × Nat))[i]?) (.agg #[.slice none 0 0, .slice none 0 0]) := sti_struct (by kernel_rfl) (by rfl) (by kernel_rfl)
instance : TyI Tryd.prog 43 false 1 := ⟨by kernel_rfl, by kernel_rfl⟩
instance : ByI Tryd.prog 43 8 (.int .i64 0) := ⟨by kernel_rfl, by kernel_rfl⟩
instance : TyI Tryd.prog 47 false 1 := ⟨by kernel_rfl, by kernel_rfl⟩
instance : ElI Tryd.prog 47 3 := ⟨by kernel_rfl, by kernel_rfl⟩
instance : ByI Tryd.prog 47 24 (.slice none 0 0) := ⟨by kernel_rfl, by kernel_rfl⟩
instance : TyI Tryd.prog 50 false 1 := ⟨by kernel_rfl, by kernel_rfl⟩
instance : ElI Tryd.prog 50 26 := ⟨by kernel_rfl, by kernel_rfl⟩
instance : ByI Tryd.prog 50 24 (.slice none 0 0) := ⟨by kernel_rfl, by kernel_rfl⟩
instance : TyI Tryd.prog 52 true 2 := ⟨by kernel_rfl, by kernel_rfl⟩
instance : ArI Tryd.prog 52 2 5 := ⟨by kernel_rfl⟩
instance : ByI Tryd.prog 52 2 (.agg #[.int .u8 0, .int .u8 0]) := ⟨by kernel_rfl, by kernel_rfl⟩
instance : TyI Tryd.prog 55 false 1 := ⟨by kernel_rfl, by kernel_rfl⟩
instance : ElI Tryd.prog 55 4 := ⟨by kernel_rfl, by kernel_rfl⟩
instance : ByI Tryd.prog 55 24 (.slice none 0 0) := ⟨by kernel_rfl, by kernel_rfl⟩
instance : TyI Tryd.prog 57 false 1 := ⟨by kernel_rfl, by kernel_rfl⟩
instance : ElI Tryd.prog 57 67 := ⟨by kernel_rfl, by kernel_rfl⟩
instance : ByI Tryd.prog 57 24 (.slice none 0 0) := ⟨by kernel_rfl, by kernel_rfl⟩
instance : TyI Tryd.prog 59 true 3 := ⟨by kernel_rfl, by kernel_rfl⟩
instance : ByI Tryd.prog 59 24 (.agg #[.int .i64 0, .int .i64 0, .int .i32 0]) := ⟨by kernel_rfl, by kernel_rfl⟩
instance : StI Tryd.prog 59 (fun i => ([(0, 1), (1, 1), (2, 1)] : List (Nat × Nat))[i]?) (.agg #[.int .i64 0, .int .i64 0, .int .i32 0]) := sti_struct (by kernel_rfl) (by rfl) (by kernel_rfl)
instance : TyI Tryd.prog 60 true 2 := ⟨by kernel_rfl, by kernel_rfl⟩
instance : ArI Tryd.prog 60 2 3 := ⟨by kernel_rfl⟩
instance : ByI Tryd.prog 60 16 (.agg #[.int .i64 0, .int .i64 0]) := ⟨by kernel_rfl, by kernel_rfl⟩
instance : StI Tryd.prog 60 (fun i => some (i * 1, 1)) (.agg #[.int .i64 0, .int .i64 0]) := sti_array (n := 2) (e := 3) (by kernel_rfl) (by rfl) (by kernel_rfl) (by kernel_rfl)
instance : TyI Tryd.prog 62 true 13 := ⟨by kernel_rfl, by kernel_rfl⟩
instance : ByI Tryd.prog 62 104 (.agg #[.int .i64 0, .int .i64 0, .int .i64 0, .int .i64 0, .int .i32 0, .int .i64 0, .int .i64 0, .int .i32 0, .int .i64 0, .int .i64 0, .int .i32 0, .int .i64 0, .int .i64 0]) := ⟨by kernel_rfl, by kernel_rfl⟩
instance : StI Tryd.prog 62 (fun i => ([(0, 1), (1, 1), (2, 3), (5, 3), (8, 3), (11, 2)] : List (Nat × Nat))[i]?) (.agg #[.int .i64 0, .int .i64 0, .int .i64 0, .int .i64 0, .int .i32 0, .int .i64 0, .int .i64 0, .int .i32 0, .int .i64 0, .int .i64 0, .int .i32 0, .int .i64 0, .int .i64 0]) := sti_struct (by kernel_rfl) (by rfl) (by kernel_rfl)
instance : TyI Tryd.prog 64 true 14 := ⟨by kernel_rfl, by kernel_rfl⟩
instance : ByI Tryd.prog 64 128 (.agg #[.slice none 0 0, .int .i64 0, .int .i64 0, .int .i64 0, .int .i64 0, .int .i32 0, .int .i64 0, .int .i64 0, .int .i32 0, .int .i64 0, .int .i64 0, .int .i32 0, .int .i64 0, .int .i64 0]) := ⟨by kernel_rfl, by kernel_rfl⟩
instance : StI Tryd.prog 64 (fun i => ([(0, 1), (1, 13)] : List (Nat × Nat))[i]?) (.agg #[.slice none 0 0, .int .i64 0, .int .i64 0, .int .i64 0, .int .i64 0, .int .i32 0, .int .i64 0, .int .i64 0, .int .i32 0, .int .i64 0, .int .i64 0, .int .i32 0, .int .i64 0, .int .i64 0]) := sti_struct (by kernel_rfl) (by rfl) (by kernel_rfl)
instance : TyI Tryd.prog 67 true 15 := ⟨by kernel_rfl, by kernel_rfl⟩
instance : ByI Tryd.prog 67 120 (.agg #[.int .i64 0, .int .i64 0, .int .i64 0, .int .i64 0, .int .i64 0, .int .i32 0, .int .i64 0, .int .i64 0, .int .i32 0, .int .i64 0, .int .i64 0, .int .i32 0, .int .i64 0, .int .i64 0, .int .i32 0]) := ⟨by kernel_rfl, by kernel_rfl⟩
instance : StI Tryd.prog 67 (fun i => ([(0, 1), (1, 1), (2, 1), (3, 3), (6, 3), (9, 3), (12, 3)] : List (Nat × Nat))[i]?) (.agg #[.int .i64 0, .int .i64 0, .int .i64 0, .int .i64 0, .int .i64 0, .int .i32 0, .int .i64 0, .int .i64 0, .int .i32 0, .int .i64 0, .int .i64 0, .int .i32 0, .int .i64 0, .int .i64 0, .int .i32 0]) := sti_struct (by kernel_rfl) (by rfl) (by kernel_rfl)
instance : TyI Tryd.prog 74 true 1 := ⟨by kernel_rfl, by kernel_rfl⟩
instance : ByI Tryd.prog 74 24 (.agg #[.slice none 0 0]) := ⟨by kernel_rfl, by kernel_rfl⟩
instance : StI Tryd.prog 74 (fun i => ([(0, 1)] : List (Nat × Nat))[i]?) (.agg #[.slice none 0 0]) := sti_struct (by kernel_rfl) (by rfl) (by kernel_rfl)
instance : TyI Tryd.prog 76 true 10 := ⟨by kernel_rfl, by kernel_rfl⟩
instance : ByI Tryd.prog 76 144 (.agg #[.int .i64 0, .int .i64 0, .int .i64 0, .int .i64 0, .int .i64 0, .slice none 0 0, .slice none 0 0, .slice none 0 0, .slice none 0 0, .int .i64 0]) := ⟨by kernel_rfl, by kernel_rfl⟩
instance : StI Tryd.prog 76 (fun i => ([(0, 8), (8, 1), (9, 1)] : List (Nat × Nat))[i]?) (.agg #[.int .i64 0, .int .i64 0, .int .i64 0, .int .i64 0, .int .i64 0, .slice none 0 0, .slice none 0 0, .slice none 0 0, .slice none 0 0, .int .i64 0]) := sti_struct (by kernel_rfl) (by rfl) (by kernel_rfl)
instance : TyI Tryd.prog 82 false 1 := ⟨by kernel_rfl, by kernel_rfl⟩
instance : ByI Tryd.prog 82 8 (.pointer none) := ⟨by kernel_rfl, by kernel_rfl⟩
instance : TyI Tryd.prog 84 true 10 := ⟨by kernel_rfl, by kernel_rfl⟩
instance : ByI Tryd.prog 84 144 (.agg #[.slice none 0 0, .int .i64 0, .int .i64 0, .int .i64 0, .int .i64 0, .int .i64 0, .int .i64 0, .slice none 0 0, .slice none 0 0, .slice none 0 0]) := ⟨by kernel_rfl, by kernel_rfl⟩
instance : StI Tryd.prog 84 (fun i => ([(0, 1), (1, 1), (2, 8)] : List (Nat × Nat))[i]?) (.agg #[.slice none 0 0, .int .i64 0, .int .i64 0, .int .i64 0, .int .i64 0, .int .i64 0, .int .i64 0, .slice none 0 0, .slice none 0 0, .slice none 0 0]) := sti_struct (by kernel_rfl) (by rfl) (by kernel_rfl)
instance : TyI Tryd.prog 89 false 1 := ⟨by kernel_rfl, by kernel_rfl⟩
instance : ElI Tryd.prog 89 93 := ⟨by kernel_rfl, by kernel_rfl⟩
instance : ByI Tryd.prog 89 24 (.slice none 0 0) := ⟨by kernel_rfl, by kernel_rfl⟩
instance : TyI Tryd.prog 91 false 1 := ⟨by kernel_rfl, by kernel_rfl⟩
instance : ByI Tryd.prog 91 8 (.int .u64 0) := ⟨by kernel_rfl, by kernel_rfl⟩
instance : TyI Tryd.prog 93 true 4 := ⟨by kernel_rfl, by kernel_rfl⟩
instance : ArI Tryd.prog 93 4 91 := ⟨by kernel_rfl⟩
instance : ByI Tryd.prog 93 32 (.agg #[.int .u64 0, .int .u64 0, .int .u64 0, .int .u64 0]) := ⟨by kernel_rfl, by kernel_rfl⟩
instance : TyI Tryd.prog 100 false 1 := ⟨by kernel_rfl, by kernel_rfl⟩
instance : ByI Tryd.prog 100 8 (.int .u64 0) := ⟨by kernel_rfl, by kernel_rfl⟩
instance : TyI Tryd.prog 114 false 1 := ⟨by kernel_rfl, by kernel_rfl⟩
instance : ElI Tryd.prog 114 59 := ⟨by kernel_rfl, by kernel_rfl⟩
instance : ByI Tryd.prog 114 24 (.slice none 0 0) := ⟨by kernel_rfl, by kernel_rfl⟩
instance : TyI Tryd.prog 117 false 1 := ⟨by kernel_rfl, by kernel_rfl⟩
instance : ByI Tryd.prog 117 8 (.nilFunc) := ⟨by kernel_rfl, by kernel_rfl⟩
instance : TyI Tryd.prog 121 true 4 := ⟨by kernel_rfl, by kernel_rfl⟩
instance : ByI Tryd.prog 121 40 (.agg #[.string ByteArray.empty, .int .i64 0, .int .i64 0, .int .i64 0]) := ⟨by kernel_rfl, by kernel_rfl⟩
instance : StI Tryd.prog 121 (fun i => ([(0, 1), (1, 1), (2, 1), (3, 1)] : List (Nat × Nat))[i]?) (.agg #[.string ByteArray.empty, .int .i64 0, .int .i64 0, .int .i64 0]) := sti_struct (by kernel_rfl) (by rfl) (by kernel_rfl)
instance : TyI Tryd.prog 123 false 1 := ⟨by kernel_rfl, by kernel_rfl⟩
instance : ByI Tryd.prog 123 8 (.nilFunc) := ⟨by kernel_rfl, by kernel_rfl⟩
instance : TyI Tryd.prog 125 true 3 := ⟨by kernel_rfl, by kernel_rfl⟩
instance : ByI Tryd.prog 125 24 (.agg #[.int .i64 0, .int .i64 0, .int .i64 0]) := ⟨by kernel_rfl, by kernel_rfl⟩
instance : StI Tryd.prog 125 (fun i => ([(0, 1), (1, 1), (2, 1)] : List (Nat × Nat))[i]?) (.agg #[.int .i64 0, .int .i64 0, .int .i64 0]) := sti_struct (by kernel_rfl) (by rfl) (by kernel_rfl)
instance : TyI Tryd.prog 138 false 1 := ⟨by kernel_rfl, by kernel_rfl⟩
instance : ByI Tryd.prog 138 8 (.map none) := ⟨by kernel_rfl, by kernel_rfl⟩
instance : TyI Tryd.prog 139 false 1 := ⟨by kernel_rfl, by kernel_rfl⟩
instance : ByI Tryd.prog 139 8 (.pointer none) := ⟨by kernel_rfl, by kernel_rfl⟩
instance : TyI Tryd.prog 141 true 4 := ⟨by kernel_rfl, by kernel_rfl⟩
instance : ByI Tryd.prog 141 48 (.agg #[.map none, .int .i64 0, .slice none 0 0, .map none]) := ⟨by kernel_rfl, by kernel_rfl⟩
instance : StI Tryd.prog 141 (fun i => ([(0, 1), (1, 1), (2, 1), (3, 1)] : List (Nat × Nat))[i]?) (.agg #[.map none, .int .i64 0, .slice none 0 0, .map none]) := sti_struct (by kernel_rfl) (by rfl) (by kernel_rfl)
instance : TyI Tryd.prog 147 true 64 := ⟨by kernel_rfl, by kernel_rfl⟩
instance : ArI Tryd.prog 147 64 5 := ⟨by kernel_rfl⟩
instance : ByI Tryd.prog 147 64 (.agg #[.int .u8 0, .int .u8 0, .int .u8 0, .int .u8 0, .int .u8 0, .int .u8 0, .int .u8 0, .int .u8 0, .int .u8 0, .int .u8 0, .int .u8 0, .int .u8 0, .int .u8 0, .int .u8 0, .int .u8 0, .int .u8 0, .int .u8 0, .int .u8 0, .int .u8 0, .int .u8 0, .int .u8 0, .int .u8 0, .int .u8 0, .int .u8 0, .int .u8 0, .int .u8 0, .int .u8 0, .int .u8 0, .int .u8 0, .int .u8 0, .int .u8 0, .int .u8 0, .int .u8 0, .int .u8 0, .int .u8 0, .int .u8 0, .int .u8 0, .int .u8 0, .int .u8 0, .int .u8 0, .int .u8 0, .int .u8 0, .int .u8 0, .int .u8 0, .int .u8 0, .int .u8 0, .int .u8 0, .int .u8 0, .int .u8 0, .int .u8 0, .int .u8 0, .int .u8 0, .int .u8 0, .int .u8 0, .int .u8 0, .int .u8 0, .int .u8 0, .int .u8 0, .int .u8 0, .int .u8 0, .int .u8 0, .int .u8 0, .int .u8 0, .int .u8 0]) := ⟨by kernel_rfl, by kernel_rfl⟩
instance : TyI Tryd.prog 160 false 1 := ⟨by kernel_rfl, by kernel_rfl⟩
instance : ByI Tryd.prog 160 4 (.int .u32 0) := ⟨by kernel_rfl, by kernel_rfl⟩
instance : TyI Tryd.prog 161 false 1 := ⟨by kernel_rfl, by kernel_rfl⟩
instance : ByI Tryd.prog 161 8 (.int .u64 0) := ⟨by kernel_rfl, by kernel_rfl⟩
instance : TyI Tryd.prog 165 false 1 := ⟨by kernel_rfl, by kernel_rfl⟩
instance : ByI Tryd.prog 165 8 (.pointer none) := ⟨by kernel_rfl, by kernel_rfl⟩
instance : FdI Tryd.prog 24 0 0 22 := ⟨by kernel_rfl⟩
instance : FdI Tryd.prog 26 0 0 5 := ⟨by kernel_rfl⟩
instance : FdI Tryd.prog 26 1 1 5 := ⟨by kernel_rfl⟩
instance : FdI Tryd.prog 26 2 2 5 := ⟨by kernel_rfl⟩
instance : FdI Tryd.prog 34 0 0 3 := ⟨by kernel_rfl⟩
instance : FdI Tryd.prog 34 1 1 3 := ⟨by kernel_rfl⟩
instance : FdI Tryd.prog 34 2 2 3 := ⟨by kernel_rfl⟩
instance : FdI Tryd.prog 34 3 3 3 := ⟨by kernel_rfl⟩
instance : FdI Tryd.prog 34 4 4 3 := ⟨by kernel_rfl⟩
instance : FdI Tryd.prog 34 5 5 30 := ⟨by kernel_rfl⟩
instance : FdI Tryd.prog 34 6 6 31 := ⟨by kernel_rfl⟩
instance : FdI Tryd.prog 34 7 7 32 := ⟨by kernel_rfl⟩
instance : FdI Tryd.prog 38 0 0 36 := ⟨by kernel_rfl⟩
instance : FdI Tryd.prog 38 1 1 36 := ⟨by kernel_rfl⟩
instance : FdI Tryd.prog 59 0 0 3 := ⟨by kernel_rfl⟩
instance : FdI Tryd.prog 59 1 1 3 := ⟨by kernel_rfl⟩
instance : FdI Tryd.prog 62 0 0 3 := ⟨by kernel_rfl⟩
instance : FdI Tryd.prog 62 2 2 59 := ⟨by kernel_rfl⟩
instance : FdI Tryd.prog 62 3 5 59 := ⟨by kernel_rfl⟩
instance : FdI Tryd.prog 62 4 8 59 := ⟨by kernel_rfl⟩
instance : FdI Tryd.prog 62 5 11 60 := ⟨by kernel_rfl⟩
instance : FdI Tryd.prog 64 0 0 57 := ⟨by kernel_rfl⟩
instance : FdI Tryd.prog 64 1 1 62 := ⟨by kernel_rfl⟩
instance : FdI Tryd.prog 67 3 3 59 := ⟨by kernel_rfl⟩
instance : FdI Tryd.prog 67 4 6 59 := ⟨by kernel_rfl⟩
instance : FdI Tryd.prog 67 5 9 59 := ⟨by kernel_rfl⟩
instance : FdI Tryd.prog 67 6 12 59 := ⟨by kernel_rfl⟩
instance : FdI Tryd.prog 74 0 0 47 := ⟨by kernel_rfl⟩
instance : FdI Tryd.prog 76 0 0 34 := ⟨by kernel_rfl⟩
instance : FdI Tryd.prog 76 1 8 74 := ⟨by kernel_rfl⟩
instance : FdI Tryd.prog 76 2 9 43 := ⟨by kernel_rfl⟩
instance : FdI Tryd.prog 84 0 0 22 := ⟨by kernel_rfl⟩
instance : FdI Tryd.prog 84 1 1 3 := ⟨by kernel_rfl⟩
instance : FdI Tryd.prog 84 2 2 34 := ⟨by kernel_rfl⟩
instance : FdI Tryd.prog 121 3 3 3 := ⟨by kernel_rfl⟩
instance : FdI Tryd.prog 141 0 0 138 := ⟨by kernel_rfl⟩
instance : FdI Tryd.prog 141 1 1 3 := ⟨by kernel_rfl⟩
instance : FdI Tryd.prog 141 2 2 57 := ⟨by kernel_rfl⟩
instance : FdI Tryd.prog 141 3 3 138 := ⟨by kernel_rfl⟩
theorem fn6 : Tryd.prog.funcs[6]? = some Tryd.f6 := by kernel_rfl
theorem fn10 : Tryd.prog.funcs[10]? = some Tryd.f10 := by kernel_rfl
theorem fn11 : Tryd.prog.funcs[11]? = some Tryd.f11 := by kernel_rfl
theorem fn12 : Tryd.prog.funcs[12]? = some Tryd.f12 := by kernel_rfl
theorem fn13 : Tryd.prog.funcs[13]? = some Tryd.f13 := by kernel_rfl
theorem fn14 : Tryd.prog.funcs[14]? = some Tryd.f14 := by kernel_rfl
theorem fn16 : Tryd.prog.funcs[16]? = some Tryd.f16 := by kernel_rfl
theorem fn17 : Tryd.prog.funcs[17]? = some Tryd.f17 := by kernel_rfl
theorem fn19 : Tryd.prog.funcs[19]? = some Tryd.f19 := by kernel_rfl
theorem fn21 : Tryd.prog.funcs[21]? = some Tryd.f21 := by kernel_rfl
theorem fn22 : Tryd.prog.funcs[22]? = some Tryd.f22 := by kernel_rfl
theorem fn25 : Tryd.prog.funcs[25]? = some Tryd.f25 := by kernel_rfl
theorem fn26 : Tryd.prog.funcs[26]? = some Tryd.f26 := by kernel_rfl
theorem fn27 : Tryd.prog.funcs[27]? = some Tryd.f27 := by kernel_rfl
theorem fn28 : Tryd.prog.funcs[28]? = some Tryd.f28 := by kernel_rfl
theorem fn34 : Tryd.prog.funcs[34]? = some Tryd.f34 := by kernel_rfl
theorem fn35 : Tryd.prog.funcs[35]? = some Tryd.f35 := by kernel_rfl
theorem fn36 : Tryd.prog.funcs[36]? = some Tryd.f36 := by kernel_rfl
theorem fn37 : Tryd.prog.funcs[37]? = some Tryd.f37 := by kernel_rfl
theorem fn38 : Tryd.prog.funcs[38]? = some Tryd.f38 := by kernel_rfl
theorem fn39 : Tryd.prog.funcs[39]? = some Tryd.f39 := by kernel_rfl
theorem fn40 : Tryd.prog.funcs[40]? = some Tryd.f40 := by kernel_rfl
theorem fn41 : Tryd.prog.funcs[41]? = some Tryd.f41 := by kernel_rfl
theorem fn42 : Tryd.prog.funcs[42]? = some Tryd.f42 := by kernel_rfl
theorem fn43 : Tryd.prog.funcs[43]? = some Tryd.f43 := by kernel_rfl
theorem fn44 : Tryd.prog.funcs[44]? = some Tryd.f44 := by kernel_rfl
theorem fn45 : Tryd.prog.funcs[45]? = some Tryd.f45 := by kernel_rfl
theorem fn46 : Tryd.prog.funcs[46]? = some Tryd.f46 := by kernel_rfl
theorem fn47 : Tryd.prog.funcs[47]? = some Tryd.f47 := by kernel_rfl
theorem fn48 : Tryd.prog.funcs[48]? = some Tryd.f48 := by kernel_rfl
theorem fn49 : Tryd.prog.funcs[49]? = some Tryd.f49 := by kernel_rfl
theorem fn50 : Tryd.prog.funcs[50]? = some Tryd.f50 := by kernel_rfl
theorem fn51 : Tryd.prog.funcs[51]? = some Tryd.f51 := by kernel_rfl
theorem fn52 : Tryd.prog.funcs[52]? = some Tryd.f52 := by kernel_rfl
theorem fn53 : Tryd.prog.funcs[53]? = some Tryd.f53 := by kernel_rfl
theorem fn55 : Tryd.prog.funcs[55]? = some Tryd.f55 := by kernel_rfl
theorem fn56 : Tryd.prog.funcs[56]? = some Tryd.f56 := by kernel_rfl
theorem fn57 : Tryd.prog.funcs[57]? = some Tryd.f57 := by kernel_rfl
theorem fn58 : Tryd.prog.funcs[58]? = some Tryd.f58 := by kernel_rfl
theorem fn59 : Tryd.prog.funcs[59]? = some Tryd.f59 := by kernel_rfl
theorem fn60 : Tryd.prog.funcs[60]? = some Tryd.f60 := by kernel_rfl
theorem fn61 : Tryd.prog.funcs[61]? = some Tryd.f61 := by kernel_rfl
theorem fn63 : Tryd.prog.funcs[63]? = some Tryd.f63 := by kernel_rfl
theorem fn64 : Tryd.prog.funcs[64]? = some Tryd.f64 := by kernel_rfl
theorem fn65 : Tryd.prog.funcs[65]? = some Tryd.f65 := by kernel_rfl
theorem fn74 : Tryd.prog.funcs[74]? = some Tryd.f74 := by kernel_rfl
theorem fn75 : Tryd.prog.funcs[75]? = some Tryd.f75 := by kernel_rfl
theorem fn76 : Tryd.prog.funcs[76]? = some Tryd.f76 := by kernel_rfl
theorem fn77 : Tryd.prog.funcs[77]? = some Tryd.f77 := by kernel_rfl
theorem fn78 : Tryd.prog.funcs[78]? = some Tryd.f78 := by kernel_rfl
theorem fn79 : Tryd.prog.funcs[79]? = some Tryd.f79 := by kernel_rfl
theorem fn80 : Tryd.prog.funcs[80]? = some Tryd.f80 := by kernel_rfl
theorem fn81 : Tryd.prog.funcs[81]? = some Tryd.f81 := by kernel_rfl
theorem fn82 : Tryd.prog.funcs[82]? = some Tryd.f82 := by kernel_rfl
theorem fn83 : Tryd.prog.funcs[83]? = some Tryd.f83 := by kernel_rfl
theorem fn84 : Tryd.prog.funcs[84]? = some Tryd.f84 := by kernel_rfl
theorem fn85 : Tryd.prog.funcs[85]? = some Tryd.f85 := by kernel_rfl
theorem fn86 : Tryd.prog.funcs[86]? = some Tryd.f86 := by kernel_rfl
theorem fn87 : Tryd.prog.funcs[87]? = some Tryd.f87 := by kernel_rfl
theorem fn90 : Tryd.prog.funcs[90]? = some Tryd.f90 := by kernel_rfl
theorem fn101 : Tryd.prog.funcs[101]? = some Tryd.f101 := by kernel_rfl
theorem fn102 : Tryd.prog.funcs[102]? = some Tryd.f102 := by kernel_rfl
theorem fn103 : Tryd.prog.funcs[103]? = some Tryd.f103 := by kernel_rfl
theorem fn104 : Tryd.prog.funcs[104]? = some Tryd.f104 := by kernel_rfl
theorem fn106 : Tryd.prog.funcs[106]? = some Tryd.f106 := by kernel_rfl
theorem fn107 : Tryd.prog.funcs[107]? = some Tryd.f107 := by kernel_rfl
theorem fn113 : Tryd.prog.funcs[113]? = some Tryd.f113 := by kernel_rfl
theorem fn117 : Tryd.prog.funcs[117]? = some Tryd.f117 := by kernel_rfl
theorem fn123 : Tryd.prog.funcs[123]? = some Tryd.f123 := by kernel_rfl
instance : Gl Tryd.prog := ⟨some ⟨[(.int .u8 0), (.int .u8 1), (.int .u8 56), (.int .u8 2), (.int .u8 57), (.int .u8 49), (.int .u8 28), (.int .u8 3), (.int .u8 61), (.int .u8 58), (.int .u8 42), (.int .u8 50), (.int .u8 38), (.int .u8 29), (.int .u8 17), (.int .u8 4), (.int .u8 62), (.int .u8 47), (.int .u8 59), (.int .u8 36), (.int .u8 45), (.int .u8 43), (.int .u8 51), (.int .u8 22), (.int .u8 53), (.int .u8 39), (.int .u8 33), (.int .u8 30), (.int .u8 24), (.int .u8 18), (.int .u8 12), (.int .u8 5), (.int .u8 63), (.int .u8 55), (.int .u8 48), (.int .u8 27), (.int .u8 60), (.int .u8 41), (.int .u8 37), (.int .u8 16), (.int .u8 46), (.int .u8 35), (.int .u8 44), (.int .u8 21), (.int .u8 52), (.int .u8 32), (.int .u8 23), (.int .u8 11), (.int .u8 54), (.int .u8 26), (.int .u8 40), (.int .u8 15), (.int .u8 34), (.int .u8 20), (.int .u8 31), (.int .u8 10), (.int .u8 25), (.int .u8 14), (.int .u8 19), (.int .u8 9), (.int .u8 13), (.int .u8 8), (.int .u8 7), (.int .u8 6)], 147, true⟩⟩
end Go.Ab
namespace Go.Ab
open Go.Proofs
theorem back_walk {asg body : Go.Code} {ps : Array Tmp} {T0 : Array Value} {l b o : Nat} {n : Nat} {J : Nat → Heap → Prop} (hn : n < 2 ^ 62)
    (hJs : ∀ k H, J k H → ∃ sv, loadA Tryd.prog H 57 ⟨b, o, none⟩ = some sv ∧ ((sv = .slice none 0 0 ∧ n = 0) ∨ ∃ a cap, sv = .slice (some a) n cap) ∧ ∀ j, k = j + 1 → k ≤ n → ∃ pa v m H', indexAddrA Tryd.prog 57 sv (.int .i64 (j : Int)) = some (.pointer (some pa)) ∧ loadA Tryd.prog H 67 pa = some v ∧
      roundYl (execA Tryd.prog (callA Tryd.prog noPrim m) m .round asg) (execA Tryd.prog (callA Tryd.prog noPrim m) m .round body) ps T0 l l #[.int .i64 (j : Int), v] H = some (.bool true, H') ∧ J j H')
    {c : Go.Code} (hc : Tryd.f85.body = some c) {H : Heap} (h0 : J n H) :
    WC Tryd.prog noPrim (.iter asg body ps T0 l) c Tryd.f85.ntmps [(0, .func (.yield l) #[] #[]), (1, .pointer (some ⟨b, o, none⟩))] H (fun e _ H' => (∀ id, e ≠ .exit id) ∧ J 0 H') := by
  cases hc
  obtain ⟨sv, hsv, hs, _⟩ := hJs _ _ h0
  refine wc_region_seq ?_
  refine wo_op rfl (op_load (by rfl) (by rfl) hsv) (by rfl) (by rfl) ?_
  refine wo_op (v := .int .i64 (n : Int)) (H' := H) rfl ⟨nocall (by simp), fun T hT => ⟨by rfl, ?_⟩⟩ (by rfl) (by rfl) ?_
  · have e : evT T (.tmp 4) = sv := hT.ev (x := .tmp 4) rfl
    have hu : Tryd.prog.underlying 57 = some (.slice 67) := by kernel_rfl
    rcases hs with ⟨rfl, rfl⟩ | ⟨a, cap, rfl⟩ <;> simp [stepOp, e, hu]
  refine wo_op rfl (op_sub (by rfl) (by rfl) (by rfl) (by rfl) (by constructor <;> omega)) (by rfl) (by rfl) ?_
  refine wo_op rfl (op_assign (by rfl) (by rfl)) (by rfl) (by rfl) ?_
  refine wo_nil ?_
  refine wc_block (wc_loop (fun k H => k ≤ n ∧ J k H) (fun k => [(0, .func (.yield l) #[] #[]), (1, .pointer (some ⟨b, o, none⟩)), (3, .int .i64 ((k : Int) - 1))]) (fun k => k) n (by exact ⟨rfl, rfl, rfl, trivial⟩) ⟨Nat.le_refl _, h0⟩ ?_)
  rintro k H ⟨hk, hJ⟩
  refine wc_assoc (wc_region_seq ?_)
  refine wo_op rfl (op_move (by rfl) (by rfl)) (by rfl) (by rfl) ?_
  refine wo_op rfl (op_cmp (by rfl) (by rfl) (by rfl) (by rfl) (by rfl)) (by rfl) (by rfl) ?_
  refine wo_nil ?_
  refine wc_if_seq (by rfl) (by rfl) (fun c1 => ?_) (fun c1 => ?_)
  · obtain ⟨j, rfl⟩ : ∃ j, k = j + 1 := ⟨k - 1, by omega⟩
    obtain ⟨sv', hsv', _, hx⟩ := hJs _ _ hJ
    obtain ⟨pa, v, m, H', hp, hl, hr, hJ'⟩ := hx j rfl hk
    have ej : ((j + 1 : Nat) : Int) - 1 = (j : Int) := by omega
    refine wc_skip_seq ?_
    refine wc_block_seq ?_
    refine wc_region_seq ?_
    refine wo_op rfl (op_move (by rfl) (by rfl)) (by rfl) (by rfl) ?_
    refine wo_op rfl (op_move (by rfl) (by rfl)) (by rfl) (by rfl) ?_
    refine wo_op rfl (op_load (by rfl) (by rfl) hsv') (by rfl) (by rfl) ?_
    refine wo_op rfl (op_move (by rfl) (by rfl)) (by rfl) (by rfl) ?_
    refine wo_op (v := .pointer (some pa)) (H' := H) rfl ⟨fun x => .inl (by simp), fun T hT => ⟨by rfl, ?_⟩⟩ (by rfl) (by rfl) ?_
    · have e1 : evT T (.tmp 13) = sv' := hT.ev (x := .tmp 13) rfl
      have e2 : evT T (.tmp 14) = .int .i64 (((j + 1 : Nat) : Int) - 1) := hT.ev (x := .tmp 14) rfl
      rw [ej] at e2
      simp only [stepOp, e1, e2, hp, Option.map_some]
    refine wo_op rfl (op_load (by rfl) (by rfl) hl) (by rfl) (by rfl) ?_
    refine wo_step (v := .bool true) (H' := H') (fun T _ => wanted_none rfl T) (fun T hT => ⟨m, ?_⟩) (by rfl) ?_
    · have e1 : evT T (.tmp 11) = .func (.yield l) #[] #[] := hT.ev (x := .tmp 11) rfl
      have e2 : evT T (.tmp 12) = .int .i64 (((j + 1 : Nat) : Int) - 1) := hT.ev (x := .tmp 12) rfl
      have e3 : evT T (.tmp 16) = v := hT.ev (x := .tmp 16) rfl
      rw [ej] at e2
      have hy : yieldOf Tryd.prog T { dst := some 17, op := Op.call { callee := Callee.value (Operand.tmp 11), args := #[Operand.tmp 12, Operand.tmp 16], argTypes := #[3, 67] }, type := 4, pos := "iter.go:29", after := #[{ on := 0, ground := Ground.data }, { on := 1, ground := Ground.data }, { on := 5, ground := Ground.data }], guard := none } = some (l, #[.int .i64 (j : Int), v]) := by
        simp only [yieldOf, e1]
        split
        · simp [e2, e3]
        · rename_i h; exact absurd rfl h
      simp only [opY, MK.md, hy]
      exact hr
    refine wo_op rfl (op_not (by rfl) (by rfl)) (by rfl) (by rfl) ?_
    refine wo_nil ?_
    refine wc_ifb (by rfl) (by rfl) (fun c => by cases c) (fun _ => ?_)
    refine wc_skip (q_next ?_)
    refine wc_region ?_
    refine wo_op rfl (op_move (by rfl) (by rfl)) (by rfl) (by rfl) ?_
    refine wo_op rfl (op_sub (by rfl) (by rfl) (by rfl) (by rfl) (by constructor <;> omega)) (by rfl) (by rfl) ?_
    refine wo_op rfl (op_assign (by rfl) (by rfl)) (by rfl) (by rfl) ?_
    refine wo_nil ?_
    refine q_round j (by omega) ⟨by omega, hJ'⟩ ?_
    exact ⟨rfl, rfl, by rw [← ej]; rfl, trivial⟩
  · refine wc_exit_seq (wc_exit fun T h1 h2 => ?_)
    have : k = 0 := by omega
    subst this
    simp only [QSeq, Qblock, if_true]
    exact ⟨by simp, hJ⟩
end Go.Ab
namespace Go.Ab
abbrev W := BitVec 64
instance : Enc W := ⟨1, fun w => .v (.int .u64 (w.toNat : Int)), 0, fun _ => rfl, fun _ => .v _, fun _ => rfl, by decide⟩
abbrev tw (w : W) : TV := .v (.int .u64 (w.toNat : Int))
theorem ofInt_nat (w : W) : BitVec.ofInt 64 (w.toNat : Int) = w := by
  apply BitVec.eq_of_toNat_eq
  simp
theorem wrapU (n : Nat) (h : n < 2 ^ 64) : IntKind.u64.wrap (n : Int) = n := by
  unfold IntKind.wrap
  have hb : IntKind.u64.bits = 64 := rfl
  have hs : IntKind.u64.signed = false := rfl
  simp only [hb, hs, Bool.false_and]
  rw [Int.emod_eq_of_lt (by omega) (by omega)]
  simp
theorem wrapW (w : W) : IntKind.u64.wrap (w.toNat : Int) = w.toNat := wrapU _ w.isLt
theorem wrapU_mod (n : Nat) : IntKind.u64.wrap (n : Int) = ((n % 2 ^ 64 : Nat) : Int) := by
  unfold IntKind.wrap
  have hb : IntKind.u64.bits = 64 := rfl
  have hs : IntKind.u64.signed = false := rfl
  simp only [hb, hs, Bool.false_and]
  simp
theorem ibin_or (a b : W) : ibin .or .u64 (a.toNat : Int) (b.toNat : Int) = some (.int .u64 ((a ||| b).toNat : Int)) := by
  have hb : IntKind.u64.bits = 64 := rfl
  simp only [ibin]
  rw [show (BitVec.ofInt IntKind.u64.bits (a.toNat : Int)) = a from ofInt_nat a, show (BitVec.ofInt IntKind.u64.bits (b.toNat : Int)) = b from ofInt_nat b]
  exact congrArg (fun x => some (Value.int .u64 x)) (wrapW (a ||| b))
theorem ibin_and (a b : W) : ibin .and .u64 (a.toNat : Int) (b.toNat : Int) = some (.int .u64 ((a &&& b).toNat : Int)) := by
  simp only [ibin]
  rw [show (BitVec.ofInt IntKind.u64.bits (a.toNat : Int)) = a from ofInt_nat a, show (BitVec.ofInt IntKind.u64.bits (b.toNat : Int)) = b from ofInt_nat b]
  exact congrArg (fun x => some (Value.int .u64 x)) (wrapW (a &&& b))
theorem ibin_andNot (a b : W) : ibin .andNot .u64 (a.toNat : Int) (b.toNat : Int) = some (.int .u64 ((a &&& ~~~b).toNat : Int)) := by
  simp only [ibin]
  rw [show (BitVec.ofInt IntKind.u64.bits (a.toNat : Int)) = a from ofInt_nat a, show (BitVec.ofInt IntKind.u64.bits (b.toNat : Int)) = b from ofInt_nat b]
  exact congrArg (fun x => some (Value.int .u64 x)) (wrapW (a &&& ~~~b))
theorem ibin_sub1 (a b : W) : ibin .sub .u64 (a.toNat : Int) (b.toNat : Int) = some (.int .u64 ((a - b).toNat : Int)) := by
  simp only [ibin]
  congr 2
  have h := b.isLt
  have h2 := a.isLt
  unfold IntKind.wrap
  have hb : IntKind.u64.bits = 64 := rfl
  have hs : IntKind.u64.signed = false := rfl
  simp only [hb, hs, Bool.false_and, Bool.false_eq_true, if_false]
  rw [BitVec.toNat_sub]
  omega
theorem ibin_addW (a b : W) : ibin .add .u64 (a.toNat : Int) (b.toNat : Int) = some (.int .u64 ((a + b).toNat : Int)) := by
  simp only [ibin]
  congr 2
theorem ibin_mulW (a b : W) : ibin .mul .u64 (a.toNat : Int) (b.toNat : Int) = some (.int .u64 ((a * b).toNat : Int)) := by
  simp only [ibin]
  congr 2
section
variable {P : Program} {X : Cx} {E : TEnv} {Th : List Root}
theorem opt_orW {t u : TypeId} {x y : Operand} {a b : W} (hx : evTV E x = some (tw a)) (hy : evTV E y = some (tw b)) (o1 : okOpd P x = true) (o2 : okOpd P y = true) : OpT P X E Th (.binOp .or t x y u) (tw (a ||| b)) Th .no := opt_ibin hx hy o1 o2 (ibin_or a b) rfl
theorem opt_andW {t u : TypeId} {x y : Operand} {a b : W} (hx : evTV E x = some (tw a)) (hy : evTV E y = some (tw b)) (o1 : okOpd P x = true) (o2 : okOpd P y = true) : OpT P X E Th (.binOp .and t x y u) (tw (a &&& b)) Th .no := opt_ibin hx hy o1 o2 (ibin_and a b) rfl
theorem opt_andNotW {t u : TypeId} {x y : Operand} {a b : W} (hx : evTV E x = some (tw a)) (hy : evTV E y = some (tw b)) (o1 : okOpd P x = true) (o2 : okOpd P y = true) : OpT P X E Th (.binOp .andNot t x y u) (tw (a &&& ~~~b)) Th .no := opt_ibin hx hy o1 o2 (ibin_andNot a b) rfl
theorem opt_subW {t u : TypeId} {x y : Operand} {a b : W} (hx : evTV E x = some (tw a)) (hy : evTV E y = some (tw b)) (o1 : okOpd P x = true) (o2 : okOpd P y = true) : OpT P X E Th (.binOp .sub t x y u) (tw (a - b)) Th .no := opt_ibin hx hy o1 o2 (ibin_sub1 a b) rfl
theorem opt_addW {t u : TypeId} {x y : Operand} {a b : W} (hx : evTV E x = some (tw a)) (hy : evTV E y = some (tw b)) (o1 : okOpd P x = true) (o2 : okOpd P y = true) : OpT P X E Th (.binOp .add t x y u) (tw (a + b)) Th .no := opt_ibin hx hy o1 o2 (ibin_addW a b) rfl
theorem opt_mulW {t u : TypeId} {x y : Operand} {a b : W} (hx : evTV E x = some (tw a)) (hy : evTV E y = some (tw b)) (o1 : okOpd P x = true) (o2 : okOpd P y = true) : OpT P X E Th (.binOp .mul t x y u) (tw (a * b)) Th .no := opt_ibin hx hy o1 o2 (ibin_mulW a b) rfl
theorem opt_negW {t : TypeId} {x : Operand} {a : W} (hx : evTV E x = some (tw a)) (o1 : okOpd P x = true) (h : pureV P (Op.unary .neg (.int .u64 (a.toNat : Int))) = some (.int .u64 ((-a).toNat : Int))) : OpT P X E Th (.unOp .neg t x) (tw (-a)) Th .no := opt_un hx o1 h rfl rfl
theorem shl_run {k : IntKind} {t : TypeId} {ox oy : Operand} {a b : W} {n : Nat} (hn : n < 64) : binA P .shl t ox oy (.int .u64 (a.toNat : Int)) (.int k (n : Int)) = some (.int .u64 ((a <<< n).toNat : Int)) := by
  have hff : (flat (.int .u64 (a.toNat : Int)) && flat (.int k (n : Int))) = true := rfl
  unfold binA
  rw [if_pos hff]
  have e : (do eqGuard .shl t ox oy (.int .u64 (a.toNat : Int)) (.int k (n : Int)); binOp .shl t (.int .u64 (a.toNat : Int)) (.int k (n : Int)) : Sem Value) = Sem.pure (.int .u64 ((a <<< n).toNat : Int)) := by
    have h1 : ¬ ((n : Int) < 0) := by omega
    have h2 : min ((n : Int).toNat) IntKind.u64.bits = n := by
      have hb : IntKind.u64.bits = 64 := rfl
      rw [hb, Int.toNat_natCast]; omega
    simp only [eqGuard, binOp, Op.shift, h1, if_false, h2]
    have h3 : IntKind.u64.wrap ((a.toNat : Int) * 2 ^ n) = ((a <<< n).toNat : Int) := by
      have : ((a.toNat : Int) * 2 ^ n) = ((a.toNat * 2 ^ n : Nat) : Int) := by simp
      rw [this, wrapU_mod, BitVec.toNat_shiftLeft, Nat.shiftLeft_eq]
    rw [h3]; rfl
  rw [e]; rfl
theorem opt_shlW {t u : TypeId} {x y : Operand} {a : W} {k : IntKind} {n : Nat} (hx : evTV E x = some (tw a)) (hy : evTV E y = some (.v (.int k (n : Int)))) (o1 : okOpd P x = true) (o2 : okOpd P y = true) (hn : n < 64) : OpT P X E Th (.binOp .shl t x y u) (tw (a <<< n)) Th .no := opt_binG hx hy rfl rfl o1 o2 (shl_run (b := a) hn) rfl
theorem shr_run {k : IntKind} {t : TypeId} {ox oy : Operand} {a : W} {n : Nat} (hn : n < 64) : binA P .shr t ox oy (.int .u64 (a.toNat : Int)) (.int k (n : Int)) = some (.int .u64 ((a >>> n).toNat : Int)) := by
  have hff : (flat (.int .u64 (a.toNat : Int)) && flat (.int k (n : Int))) = true := rfl
  unfold binA
  rw [if_pos hff]
  have e : (do eqGuard .shr t ox oy (.int .u64 (a.toNat : Int)) (.int k (n : Int)); binOp .shr t (.int .u64 (a.toNat : Int)) (.int k (n : Int)) : Sem Value) = Sem.pure (.int .u64 ((a >>> n).toNat : Int)) := by
    have h1 : ¬ ((n : Int) < 0) := by omega
    have h2 : min ((n : Int).toNat) IntKind.u64.bits = n := by
      have hb : IntKind.u64.bits = 64 := rfl
      rw [hb, Int.toNat_natCast]; omega
    simp only [eqGuard, binOp, Op.shift, h1, if_false, h2]
    have h3 : (a.toNat : Int).fdiv (2 ^ n) = ((a >>> n).toNat : Int) := by
      rw [Int.fdiv_eq_ediv_of_nonneg _ (by exact Int.le_of_lt (Int.pow_pos (by decide)))]
      rw [BitVec.toNat_ushiftRight, Nat.shiftRight_eq_div_pow]
      simp
    rw [h3]; rfl
  rw [e]; rfl
theorem opt_shrW {t u : TypeId} {x y : Operand} {a : W} {k : IntKind} {n : Nat} (hx : evTV E x = some (tw a)) (hy : evTV E y = some (.v (.int k (n : Int)))) (o1 : okOpd P x = true) (o2 : okOpd P y = true) (hn : n < 64) : OpT P X E Th (.binOp .shr t x y u) (tw (a >>> n)) Th .no := opt_binG hx hy rfl rfl o1 o2 (shr_run hn) rfl
theorem opt_neqW {t u : TypeId} {x y : Operand} {a b : W} (hx : evTV E x = some (tw a)) (hy : evTV E y = some (tw b)) (o1 : okOpd P x = true) (o2 : okOpd P y = true) : OpT P X E Th (.binOp .neq t x y u) (tb (decide (a ≠ b))) Th .no := by
  refine opt_ibin hx hy o1 o2 ?_ rfl
  simp only [ibin]
  congr 2
  have : ((a.toNat : Int) ≠ (b.toNat : Int)) ↔ a ≠ b := by
    exact not_congr (by rw [Int.ofNat_inj]; exact BitVec.toNat_inj)
  exact decide_eq_decide.2 this
theorem opt_eqlW {t u : TypeId} {x y : Operand} {a b : W} (hx : evTV E x = some (tw a)) (hy : evTV E y = some (tw b)) (o1 : okOpd P x = true) (o2 : okOpd P y = true) : OpT P X E Th (.binOp .eql t x y u) (tb (decide (a = b))) Th .no := by
  refine opt_ibin hx hy o1 o2 ?_ rfl
  simp only [ibin]
  congr 2
  have : ((a.toNat : Int) = (b.toNat : Int)) ↔ a = b := by
    rw [Int.ofNat_inj]; exact BitVec.toNat_inj
  exact decide_eq_decide.2 this
end

section
variable {P : Program} {X : Cx} {E : TEnv} {Th : List Root}
theorem wrap64n {n : Nat} (h : n < 2 ^ 63) : IntKind.i64.wrap (n : Int) = n := wrap64 ⟨by omega, by omega⟩
theorem opt_quoNN {t u : TypeId} {x y : Operand} {a b : Nat} (hx : evTV E x = some (ti (a : Int))) (hy : evTV E y = some (ti (b : Int))) (o1 : okOpd P x = true) (o2 : okOpd P y = true) (hb : 0 < b) (ha : a < 2 ^ 63) : OpT P X E Th (.binOp .quo t x y u) (ti ((a / b : Nat) : Int)) Th .no := by
  refine opt_ibin hx hy o1 o2 ?_ rfl
  have h1 : ¬ ((b : Int) = 0) := by omega
  have h2 : (a : Int).tdiv (b : Int) = ((a / b : Nat) : Int) := by rw [Int.tdiv_eq_ediv_of_nonneg (by omega)]; simp
  have h3 : a / b < 2 ^ 63 := Nat.lt_of_le_of_lt (Nat.div_le_self _ _) ha
  simp only [ibin, h1, if_false, h2, wrap64n h3]
theorem opt_remNN {t u : TypeId} {x y : Operand} {a b : Nat} (hx : evTV E x = some (ti (a : Int))) (hy : evTV E y = some (ti (b : Int))) (o1 : okOpd P x = true) (o2 : okOpd P y = true) (hb : 0 < b) : OpT P X E Th (.binOp .rem t x y u) (ti ((a % b : Nat) : Int)) Th .no := by
  refine opt_ibin hx hy o1 o2 ?_ rfl
  have h1 : ¬ ((b : Int) = 0) := by omega
  have h2 : (a : Int).tmod (b : Int) = ((a % b : Nat) : Int) := by rw [Int.tmod_eq_emod_of_nonneg (by omega)]; simp
  simp only [ibin, h1, if_false, h2]
theorem wflat_len (ws : List W) : (ws.flatMap cls).length = ws.length := by rw [flat_len]; exact Nat.mul_one _
theorem opt_load_row {t : TypeId} {x : Operand} {i g n : Nat} {e : TypeId} {cs : List TV} [hT : TyI P t true n] (hx : evTV E x = some (.pt i g 0)) (hi : Th[i]? = some ⟨g, some (e, cs)⟩) (o1 : okOpd P x = true) (hl : cs.length = n) (h0 : Nat.blt 0 n = true) : OpT P X E Th (.load t x) (.agg cs) Th .no :=
  opt_load_pt_row hx hi o1 hl (by rw [hl]; exact h0)
class LitN (c : Int) (b : outParam Nat) : Prop where
  h : c = (b : Int)
  p : 0 < b
instance : LitN 64 64 := ⟨rfl, by decide⟩
instance : LitN 2 2 := ⟨rfl, by decide⟩
theorem opt_quoNC {t u : TypeId} {x y : Operand} {a b : Nat} {c : Int} (hx : evTV E x = some (ti (a : Int))) (hy : evTV E y = some (ti c)) (o1 : okOpd P x = true) (o2 : okOpd P y = true) [hc : LitN c b] (ha : a < 2 ^ 63) : OpT P X E Th (.binOp .quo t x y u) (ti ((a / b : Nat) : Int)) Th .no :=
  opt_quoNN (b := b) hx (by rw [hy, hc.h]) o1 o2 hc.p ha
theorem opt_remNC {t u : TypeId} {x y : Operand} {a b : Nat} {c : Int} (hx : evTV E x = some (ti (a : Int))) (hy : evTV E y = some (ti c)) (o1 : okOpd P x = true) (o2 : okOpd P y = true) [hc : LitN c b] : OpT P X E Th (.binOp .rem t x y u) (ti ((a % b : Nat) : Int)) Th .no :=
  opt_remNN (b := b) hx (by rw [hy, hc.h]) o1 o2 hc.p
class LitW (c : Int) (w : outParam W) : Prop where
  h : c = (w.toNat : Int)
instance : LitW 1 1#64 := ⟨rfl⟩
instance : LitW 0 0#64 := ⟨rfl⟩
theorem opt_shlC {t u : TypeId} {x y : Operand} {c : Int} {a : W} {k : IntKind} {n : Nat} (hx : evTV E x = some (.v (.int .u64 c))) (hy : evTV E y = some (.v (.int k (n : Int)))) (o1 : okOpd P x = true) (o2 : okOpd P y = true) [hc : LitW c a] (hn : n < 64) : OpT P X E Th (.binOp .shl t x y u) (tw (a <<< n)) Th .no :=
  opt_shlW (a := a) (by rw [hx, hc.h]) hy o1 o2 hn
theorem opt_neqC {t u : TypeId} {x y : Operand} {c : Int} {a b : W} (hx : evTV E x = some (tw a)) (hy : evTV E y = some (.v (.int .u64 c))) (o1 : okOpd P x = true) (o2 : okOpd P y = true) [hc : LitW c b] : OpT P X E Th (.binOp .neq t x y u) (tb (decide (a ≠ b))) Th .no :=
  opt_neqW hx (by rw [hy, hc.h]) o1 o2
theorem opt_eqlC {t u : TypeId} {x y : Operand} {c : Int} {a b : W} (hx : evTV E x = some (tw a)) (hy : evTV E y = some (.v (.int .u64 c))) (o1 : okOpd P x = true) (o2 : okOpd P y = true) [hc : LitW c b] : OpT P X E Th (.binOp .eql t x y u) (tb (decide (a = b))) Th .no :=
  opt_eqlW hx (by rw [hy, hc.h]) o1 o2
theorem opt_index_arrN {α : Type} [Enc α] {t e : TypeId} {x i : Operand} {m n j : Nat} {k : IntKind} {xs : List α} {y : TV} [hA : ArI P t m e] [hT : TyI P e false n] (hx : evTV E x = some (.agg (xs.flatMap cls))) (hi : evTV E i = some (.v (.int k (j : Int)))) (o1 : okOpd P x = true) (o2 : okOpd P i = true) (hj : j < xs.length) (hm : xs.length = m) (hn : n = Enc.sz α) (hy : (cls (at' xs j))[0]? = some y) : OpT P X E Th (.index t x i) y Th .no := by
  subst hm hn
  refine opt_index_1 (X := X) (Th := Th) (hA := hA) (hT := hT) hx hi o1 o2 hj ?_
  have hr := flat_row hj
  rw [← hr, List.getElem?_take, if_pos Enc.pos, List.getElem?_drop, Nat.add_zero] at hy
  exact hy
theorem opt_index_ptaN {t e : TypeId} {x i : Operand} {ag : Bool} {m sz l g : Nat} {e' : TypeId} {cs : List TV} {k : IntKind} {j : Nat} [hA : ArI P t m e] [hT : TyI P e ag sz] (hx : evTV E x = some (.pt l g 0)) (hl : Th[l]? = some ⟨g, some (e', cs)⟩) (hi : evTV E i = some (.v (.int k (j : Int)))) (o1 : okOpd P x = true) (o2 : okOpd P i = true) (hn : 0 < cs.length) (hj : j < m) :
    OpT P X E Th (.indexAddr t x i) (.pt l g (j * sz)) Th .no := by
  have := opt_index_pta (X := X) (hA := hA) (hT := hT) hx hl hi o1 o2 (by rw [Nat.blt_eq]; exact hn) (by omega) (by omega)
  rw [Nat.zero_add, Int.toNat_natCast] at this
  exact this
end

structure BS where
  ws : List W
  h : ws.length = 4
theorem arr_cl {ws : List W} : Cl (.agg (ws.flatMap cls)) := .agg (flat_cl ws)
instance : Enc BS := ⟨4, fun s => .agg (s.ws.flatMap cls), ⟨[0, 0, 0, 0], rfl⟩, fun s => by show (s.ws.flatMap cls).length = 4; rw [flat_len, s.h]; rfl, fun s => arr_cl, fun _ => rfl, by decide⟩
theorem BS.ext' {s t : BS} (h : s.ws = t.ws) : s = t := by cases s; cases t; cases h; rfl
def emptyB : BS := ⟨[0, 0, 0, 0], rfl⟩
def hasB (s : BS) (n : Nat) : Bool := (at' s.ws (n / 64)).getLsbD (n % 64)
def withB (s : BS) (n : Int) : BS := if 0 ≤ n then ⟨s.ws.set (n.toNat / 64) (at' s.ws (n.toNat / 64) ||| (1#64 <<< (n.toNat % 64))), by simp [s.h]⟩ else s
def withoutB (s : BS) (n : Int) : BS := if 0 ≤ n then ⟨s.ws.set (n.toNat / 64) (at' s.ws (n.toNat / 64) &&& ~~~(1#64 <<< (n.toNat % 64))), by simp [s.h]⟩ else s
def unionB (s t : BS) : BS := ⟨(List.range 4).map fun i => at' s.ws i ||| at' t.ws i, by simp⟩
def ofB (l : List Int) : BS := l.foldl withB emptyB
theorem at_map_range {n k : Nat} {f : Nat → W} (h : k < n) : at' ((List.range n).map f) k = f k := by simp [at', h]
theorem hasB_union {s t : BS} {n : Nat} (h : n < 256) : hasB (unionB s t) n = (hasB s n || hasB t n) := by
  unfold hasB unionB
  rw [at_map_range (by omega), BitVec.getLsbD_or]
theorem one_shl {j k : Nat} (hk : k < 64) : (1#64 <<< j).getLsbD k = decide (j = k) := by
  rw [BitVec.getLsbD_shiftLeft]
  by_cases h : j = k
  · subst h; simp [hk]
  · simp only [h, decide_false, hk, decide_true, Bool.true_and]
    by_cases h2 : k < j
    · simp [h2]
    · simp only [h2, decide_false, Bool.not_false, Bool.true_and]
      rw [BitVec.getLsbD_one]
      simp; omega
theorem hasB_with {s : BS} {m : Int} {n : Nat} (hm : m < 256) (hn : n < 256) : hasB (withB s m) n = (hasB s n || decide (m = n)) := by
  unfold withB hasB
  split
  · rename_i h0
    show (at' (s.ws.set _ _) _).getLsbD _ = _
    rw [at_set (by rw [s.h]; omega)]
    by_cases h : n / 64 = m.toNat / 64
    · rw [if_pos h, BitVec.getLsbD_or, one_shl (Nat.mod_lt _ (by decide)), h]
      congr 1
      exact decide_eq_decide.2 ⟨fun h2 => by omega, fun h2 => by omega⟩
    · rw [if_neg h]
      have : ¬ m = n := by rintro rfl; simp at h
      simp [this]
  · have : ¬ m = n := by omega
    simp [this]
theorem hasB_without {s : BS} {m : Int} {n : Nat} (hm : m < 256) (hn : n < 256) : hasB (withoutB s m) n = (hasB s n && !decide (m = n)) := by
  unfold withoutB hasB
  split
  · rename_i h0
    show (at' (s.ws.set _ _) _).getLsbD _ = _
    rw [at_set (by rw [s.h]; omega)]
    by_cases h : n / 64 = m.toNat / 64
    · rw [if_pos h, BitVec.getLsbD_and, BitVec.getLsbD_not, one_shl (Nat.mod_lt _ (by decide)), h]
      simp only [Nat.mod_lt n (by decide : 64 > 0), decide_true, Bool.true_and]
      congr 2
      exact decide_eq_decide.2 ⟨fun h2 => by omega, fun h2 => by omega⟩
    · rw [if_neg h]
      have : ¬ m = n := by rintro rfl; simp at h
      simp [this]
  · have : ¬ m = n := by omega
    simp [this]
theorem hasB_empty (n : Nat) : hasB emptyB n = false := by
  unfold hasB emptyB
  have : at' ([0, 0, 0, 0] : List W) (n / 64) = 0 := by
    unfold at'
    rcases Nat.lt_or_ge (n / 64) 4 with h | h
    · have : n / 64 = 0 ∨ n / 64 = 1 ∨ n / 64 = 2 ∨ n / 64 = 3 := by omega
      rcases this with h | h | h | h <;> rw [h] <;> rfl
    · rw [List.getD_eq_getElem?_getD, List.getElem?_eq_none (by simpa using h)]; rfl
  show (at' ([0, 0, 0, 0] : List W) (n / 64)).getLsbD _ = false
  rw [this]; simp
theorem foldl_with {l : List Int} (hl : ∀ m ∈ l, m < 256) : ∀ {s : BS} {n : Nat}, n < 256 → hasB (l.foldl withB s) n = (hasB s n || decide ((n : Int) ∈ l)) := by
  induction l with
  | nil => intro s n _; simp
  | cons m l ih =>
    intro s n hn
    rw [List.foldl_cons, ih (fun x hx => hl x (by simp [hx])) hn, hasB_with (hl m (by simp)) hn, Bool.or_assoc]
    congr 1
    by_cases h : m = (n : Int)
    · simp [h]
    · have : ¬ (n : Int) = m := fun e => h e.symm
      simp [h, this]
theorem hasB_of {l : List Int} (hl : ∀ m ∈ l, m < 256) {n : Nat} (hn : n < 256) : hasB (ofB l) n = decide ((n : Int) ∈ l) := by
  unfold ofB; rw [foldl_with hl hn, hasB_empty, Bool.false_or]
theorem BS.eq {s t : BS} (h : ∀ n, n < 256 → hasB s n = hasB t n) : s = t := by
  apply BS.ext'
  refine ext_at (s.h.trans t.h.symm) fun b hb => ?_
  rw [s.h] at hb
  apply BitVec.eq_of_getLsbD_eq
  intro i hi
  have := h (64 * b + i) (by omega)
  unfold hasB at this
  rw [show (64 * b + i) / 64 = b by omega, show (64 * b + i) % 64 = i by omega] at this
  exact this
def listB (s : BS) : List Int := ((List.range 256).filter (hasB s)).map fun (n : Nat) => (n : Int)
theorem mem_listB {s : BS} {r : Int} : r ∈ listB s ↔ 0 ≤ r ∧ r < 256 ∧ hasB s r.toNat = true := by
  unfold listB
  simp only [List.mem_map, List.mem_filter, List.mem_range]
  constructor
  · rintro ⟨n, ⟨h1, h2⟩, rfl⟩; exact ⟨by omega, by omega, by simpa using h2⟩
  · rintro ⟨h1, h2, h3⟩; exact ⟨r.toNat, ⟨by omega, h3⟩, by omega⟩
theorem pw_listB (s : BS) : (listB s).Pairwise (· < ·) := by
  unfold listB
  rw [List.pairwise_map]
  exact (List.pairwise_lt_range.filter _).imp fun h => by omega
theorem listB_ofB {l : List Int} (h : LiOk 256 l) : listB (ofB l) = l := by
  refine ext_pw (pw_listB _) h.2 fun r => ?_
  rw [mem_listB]
  constructor
  · rintro ⟨h1, h2, h3⟩
    rw [hasB_of (fun m hm => (h.1 m hm).2) (by omega), decide_eq_true_eq] at h3
    rwa [Int.toNat_of_nonneg h1] at h3
  · intro hr
    have := h.1 r hr
    refine ⟨this.1, this.2, ?_⟩
    rw [hasB_of (fun m hm => (h.1 m hm).2) (by omega), decide_eq_true_eq, Int.toNat_of_nonneg this.1]
    exact hr
def unionL (s t : BS) (i : Nat) : List W := (List.range 4).map fun j => if j < i then at' s.ws j ||| at' t.ws j else at' s.ws j
theorem unionL_len {s t : BS} {i : Nat} : (unionL s t i).length = 4 := by simp [unionL]
theorem unionL_zero (s t : BS) : unionL s t 0 = s.ws := by
  refine ext_at (by rw [unionL_len, s.h]) fun k hk => ?_
  rw [unionL_len] at hk
  rw [unionL, at_map_range hk, if_neg (by omega)]
theorem unionL_step {s t : BS} {i : Nat} (h : i < 4) : (unionL s t i).set i (at' (unionL s t i) i ||| at' t.ws i) = unionL s t (i + 1) := by
  refine ext_at (by simp [unionL_len]) fun k hk => ?_
  rw [List.length_set, unionL_len] at hk
  rw [at_set (by rw [unionL_len]; omega)]
  split
  · rename_i e
    subst e
    rw [unionL, unionL, at_map_range hk, at_map_range hk, if_neg (by omega), if_pos (by omega)]
  · rw [unionL, unionL, at_map_range hk, at_map_range hk]
    by_cases h2 : k < i
    · rw [if_pos h2, if_pos (by omega)]
    · rw [if_neg h2, if_neg (by omega)]
theorem unionL_four (s t : BS) : unionL s t 4 = (unionB s t).ws := by
  refine ext_at (by rw [unionL_len, BS.h]) fun k hk => ?_
  rw [unionL_len] at hk
  rw [unionL, unionB, at_map_range hk, at_map_range hk, if_pos hk]
end Go.Ab
namespace Go.Ab
def cnt : Nat → Nat → Nat
  | 0, _ => 0
  | k + 1, x => x % 2 + cnt k (x / 2)
theorem cnt_filter : ∀ (k x : Nat), cnt k x = ((List.range k).filter fun i => x.testBit i).length
  | 0, _ => rfl
  | k + 1, x => by
    rw [List.range_succ_eq_map, List.filter_cons, List.filter_map, cnt, cnt_filter k (x / 2)]
    have e : ((fun i => x.testBit i) ∘ Nat.succ) = fun i => (x / 2).testBit i := by
      funext i; simp [Nat.testBit_succ]
    rw [e]
    by_cases h : x % 2 = 1
    · rw [if_pos (by simp [Nat.testBit_zero, h]), List.length_cons, List.length_map, h]; omega
    · rw [if_neg (by simp [Nat.testBit_zero, h]), List.length_map]; omega
theorem cnt_add : ∀ (k m x : Nat), cnt (k + m) x = cnt k x + cnt m (x / 2 ^ k)
  | 0, m, x => by simp [cnt]
  | k + 1, m, x => by
    rw [show k + 1 + m = (k + m) + 1 by omega, cnt, cnt, cnt_add k m (x / 2), Nat.div_div_eq_div_mul, Nat.pow_succ, Nat.mul_comm 2]; omega
theorem cnt_mod : ∀ (k x : Nat), cnt k (x % 2 ^ k) = cnt k x
  | 0, _ => rfl
  | k + 1, x => by
    rw [cnt, cnt, ← cnt_mod k (x / 2)]
    have h1 : x % 2 ^ (k + 1) % 2 = x % 2 := by rw [Nat.pow_succ, Nat.mul_comm]; exact Nat.mod_mul_right_mod x 2 _
    have h2 : x % 2 ^ (k + 1) / 2 = x / 2 % 2 ^ k := by rw [Nat.pow_succ, Nat.mul_comm]; exact Nat.mod_mul_right_div_self x 2 _
    rw [h1, h2]
theorem cnt_le : ∀ (k x : Nat), cnt k x ≤ k
  | 0, _ => Nat.le_refl _
  | k + 1, x => by have := cnt_le k (x / 2); rw [cnt]; omega
theorem and256 {a b c d : Nat} (ha : a < 256) (hc : c < 256) : (a + 256 * b) &&& (c + 256 * d) = (a &&& c) + 256 * (b &&& d) := by
  apply Nat.eq_of_testBit_eq
  intro i
  have hac : a &&& c < 2 ^ 8 := Nat.lt_of_le_of_lt Nat.and_le_left ha
  rw [Nat.testBit_and, Nat.add_comm a, Nat.add_comm c, Nat.add_comm (a &&& c), show (256 : Nat) = 2 ^ 8 from rfl, Nat.testBit_two_pow_mul_add _ ha, Nat.testBit_two_pow_mul_add _ hc, Nat.testBit_two_pow_mul_add _ hac]
  split <;> rw [Nat.testBit_and]
def rep (m : Nat) : Nat → Nat
  | 0 => 0
  | n + 1 => m + 256 * rep m n
def s1 (M x : Nat) : Nat := ((x / 2) &&& M) + (x &&& M)
def s2 (M x : Nat) : Nat := ((x / 4) &&& M) + (x &&& M)
def s3 (M x : Nat) : Nat := (x / 16 + x) &&& M
def spread : Nat → Nat → Nat
  | 0, _ => 0
  | n + 1, x => cnt 8 (x % 256) + 256 * spread n (x / 256)
set_option maxRecDepth 20000 in
theorem low1 : ∀ b, b < 256 → ((b / 2) &&& 0x55 = (b / 2 + 128) &&& 0x55) := by decide
set_option maxRecDepth 20000 in
theorem low2 : ∀ b, b < 256 → ∀ t, t < 4 → ((b / 4) &&& 0x33 = (b / 4 + 64 * t) &&& 0x33) := by decide +kernel
set_option maxRecDepth 20000 in
theorem lowf : ∀ b, b < 256 → s1 0x55 b < 256 ∧ s2 0x33 (s1 0x55 b) % 16 ≤ 4 ∧ s2 0x33 (s1 0x55 b) / 16 ≤ 4 ∧ (s2 0x33 (s1 0x55 b) / 16 + s2 0x33 (s1 0x55 b)) % 16 = cnt 8 b := by decide +kernel
theorem s1_step {b y M : Nat} (hb : b < 256) : s1 (0x55 + 256 * M) (b + 256 * y) = s1 0x55 b + 256 * s1 M y := by
  unfold s1
  have e : (b + 256 * y) / 2 = (b / 2 + 128 * (y % 2)) + 256 * (y / 2) := by omega
  rw [e, and256 (by omega) (by decide), and256 hb (by decide)]
  have e2 : (b / 2 + 128 * (y % 2)) &&& 0x55 = (b / 2) &&& 0x55 := by
    have : y % 2 = 0 ∨ y % 2 = 1 := by omega
    rcases this with h | h <;> rw [h]
    · rfl
    · exact (low1 b hb).symm
  rw [e2]; omega
theorem s2_step {b y M : Nat} (hb : b < 256) : s2 (0x33 + 256 * M) (b + 256 * y) = s2 0x33 b + 256 * s2 M y := by
  unfold s2
  have e : (b + 256 * y) / 4 = (b / 4 + 64 * (y % 4)) + 256 * (y / 4) := by omega
  rw [e, and256 (by omega) (by decide), and256 hb (by decide), ← low2 b hb (y % 4) (by omega)]
  omega
theorem stage : ∀ (n x : Nat), x < 256 ^ n → s2 (rep 0x33 n) (s1 (rep 0x55 n) x) % 16 ≤ 4 ∧ s3 (rep 0x0f n) (s2 (rep 0x33 n) (s1 (rep 0x55 n) x)) = spread n x
  | 0, x, h => by
    have : x = 0 := by simpa using h
    subst this; decide
  | n + 1, x, h => by
    have ih := stage n (x / 256) (by rw [Nat.pow_succ] at h; omega)
    have hf := lowf (x % 256) (Nat.mod_lt _ (by decide))
    have ex : x = x % 256 + 256 * (x / 256) := by omega
    have e1 : s1 (rep 0x55 (n + 1)) x = s1 0x55 (x % 256) + 256 * s1 (rep 0x55 n) (x / 256) := by
      conv => lhs; rw [ex]
      exact s1_step (Nat.mod_lt _ (by decide))
    have e2 : s2 (rep 0x33 (n + 1)) (s1 (rep 0x55 (n + 1)) x) = s2 0x33 (s1 0x55 (x % 256)) + 256 * s2 (rep 0x33 n) (s1 (rep 0x55 n) (x / 256)) := by
      rw [e1]; exact s2_step hf.1
    rw [e2, spread]
    generalize s2 0x33 (s1 0x55 (x % 256)) = f at hf ⊢
    generalize s2 (rep 0x33 n) (s1 (rep 0x55 n) (x / 256)) = y at ih ⊢
    refine ⟨by omega, ?_⟩
    unfold s3
    have e3 : (f + 256 * y) / 16 + (f + 256 * y) = (f / 16 + 16 * (y % 16) + f) + 256 * (y / 16 + y) := by omega
    have h2 := ih.2
    unfold s3 at h2
    rw [e3, rep, and256 (by omega) (by decide), h2]
    congr 1
    rw [← hf.2.2.2]
    have : ∀ z : Nat, z &&& 0x0f = z % 16 := fun z => Nat.and_two_pow_sub_one_eq_mod z 4
    rw [this]; omega
theorem cnt_8 (m z : Nat) : cnt (8 + m) z = cnt 8 (z % 256) + cnt m (z / 256) := by
  rw [cnt_add 8 m z]; rw [← cnt_mod 8 z]
theorem cnt_sp (n z : Nat) : cnt (8 * (n + 1)) z = cnt 8 (z % 256) + cnt (8 * n) (z / 256) := by
  rw [show 8 * (n + 1) = 8 + 8 * n by omega]; exact cnt_8 _ _
theorem sp_split (n z : Nat) : ∃ p, p ≤ 8 ∧ spread (n + 1) z = p + 256 * spread n (z / 256) ∧ cnt (8 * (n + 1)) z = p + cnt (8 * n) (z / 256) := ⟨_, cnt_le 8 (z % 256), rfl, cnt_sp n z⟩
theorem spread8 (x : Nat) : ∃ p0 p1 p2 p3 p4 p5 p6 p7 : Nat, p0 ≤ 8 ∧ p1 ≤ 8 ∧ p2 ≤ 8 ∧ p3 ≤ 8 ∧ p4 ≤ 8 ∧ p5 ≤ 8 ∧ p6 ≤ 8 ∧ p7 ≤ 8 ∧ spread 8 x = p0 + 256 * (p1 + 256 * (p2 + 256 * (p3 + 256 * (p4 + 256 * (p5 + 256 * (p6 + 256 * p7)))))) ∧ cnt 64 x = p0 + p1 + p2 + p3 + p4 + p5 + p6 + p7 := by
  obtain ⟨p0, b0, s0, c0⟩ := sp_split 7 x
  obtain ⟨p1, b1, s1, c1⟩ := sp_split 6 (x / 256)
  obtain ⟨p2, b2, s2, c2⟩ := sp_split 5 (x / 256 / 256)
  obtain ⟨p3, b3, s3, c3⟩ := sp_split 4 (x / 256 / 256 / 256)
  obtain ⟨p4, b4, s4, c4⟩ := sp_split 3 (x / 256 / 256 / 256 / 256)
  obtain ⟨p5, b5, s5, c5⟩ := sp_split 2 (x / 256 / 256 / 256 / 256 / 256)
  obtain ⟨p6, b6, s6, c6⟩ := sp_split 1 (x / 256 / 256 / 256 / 256 / 256 / 256)
  obtain ⟨p7, b7, s7, c7⟩ := sp_split 0 (x / 256 / 256 / 256 / 256 / 256 / 256 / 256)
  refine ⟨p0, p1, p2, p3, p4, p5, p6, p7, b0, b1, b2, b3, b4, b5, b6, b7, ?_, ?_⟩
  · rw [s0, s1, s2, s3, s4, s5, s6, s7, spread, Nat.mul_zero, Nat.add_zero]
  · rw [show (64 : Nat) = 8 * (7 + 1) from rfl, c0, c1, c2, c3, c4, c5, c6, c7, Nat.mul_zero, cnt]; omega
theorem d1 {a X : Nat} (h : a < 256) : (a + 256 * X) / 2 ^ 8 = X := by omega
theorem d2 {a b X : Nat} (h : a < 256) (h2 : b < 256) : (a + 256 * (b + 256 * X)) / 2 ^ 16 = X := by omega
theorem d3 {a b c d X : Nat} (h : a < 256) (h2 : b < 256) (h3 : c < 256) (h4 : d < 256) : (a + 256 * (b + 256 * (c + 256 * (d + 256 * X)))) / 2 ^ 32 = X := by omega
theorem pop_sum {p0 p1 p2 p3 p4 p5 p6 p7 : Nat} (h0 : p0 ≤ 8) (h1 : p1 ≤ 8) (h2 : p2 ≤ 8) (h3 : p3 ≤ 8) (h4 : p4 ≤ 8) (h5 : p5 ≤ 8) (h6 : p6 ≤ 8) (h7 : p7 ≤ 8) :
    (((p0 + 256 * (p1 + 256 * (p2 + 256 * (p3 + 256 * (p4 + 256 * (p5 + 256 * (p6 + 256 * p7)))))) + (p0 + 256 * (p1 + 256 * (p2 + 256 * (p3 + 256 * (p4 + 256 * (p5 + 256 * (p6 + 256 * p7))))))) / 2 ^ 8) % 2 ^ 64 + (p0 + 256 * (p1 + 256 * (p2 + 256 * (p3 + 256 * (p4 + 256 * (p5 + 256 * (p6 + 256 * p7)))))) + (p0 + 256 * (p1 + 256 * (p2 + 256 * (p3 + 256 * (p4 + 256 * (p5 + 256 * (p6 + 256 * p7))))))) / 2 ^ 8) % 2 ^ 64 / 2 ^ 16) % 2 ^ 64 + ((p0 + 256 * (p1 + 256 * (p2 + 256 * (p3 + 256 * (p4 + 256 * (p5 + 256 * (p6 + 256 * p7)))))) + (p0 + 256 * (p1 + 256 * (p2 + 256 * (p3 + 256 * (p4 + 256 * (p5 + 256 * (p6 + 256 * p7))))))) / 2 ^ 8) % 2 ^ 64 + (p0 + 256 * (p1 + 256 * (p2 + 256 * (p3 + 256 * (p4 + 256 * (p5 + 256 * (p6 + 256 * p7)))))) + (p0 + 256 * (p1 + 256 * (p2 + 256 * (p3 + 256 * (p4 + 256 * (p5 + 256 * (p6 + 256 * p7))))))) / 2 ^ 8) % 2 ^ 64 / 2 ^ 16) % 2 ^ 64 / 2 ^ 32) % 2 ^ 64 % 128 = p0 + p1 + p2 + p3 + p4 + p5 + p6 + p7 := by
  rw [d1 (by omega : p0 < 256), Nat.mod_eq_of_lt (a := _ + (p1 + _)) (by omega)]
  rw [show p0 + 256 * (p1 + 256 * (p2 + 256 * (p3 + 256 * (p4 + 256 * (p5 + 256 * (p6 + 256 * p7)))))) + (p1 + 256 * (p2 + 256 * (p3 + 256 * (p4 + 256 * (p5 + 256 * (p6 + 256 * p7)))))) = (p0 + p1) + 256 * ((p1 + p2) + 256 * ((p2 + p3) + 256 * ((p3 + p4) + 256 * ((p4 + p5) + 256 * ((p5 + p6) + 256 * ((p6 + p7) + 256 * p7)))))) by omega]
  rw [d2 (by omega) (by omega), Nat.mod_eq_of_lt (a := _ + (p2 + p3 + _)) (by omega)]
  rw [show (p0 + p1) + 256 * ((p1 + p2) + 256 * ((p2 + p3) + 256 * ((p3 + p4) + 256 * ((p4 + p5) + 256 * ((p5 + p6) + 256 * ((p6 + p7) + 256 * p7)))))) + ((p2 + p3) + 256 * ((p3 + p4) + 256 * ((p4 + p5) + 256 * ((p5 + p6) + 256 * ((p6 + p7) + 256 * p7))))) = (p0 + p1 + p2 + p3) + 256 * ((p1 + p2 + p3 + p4) + 256 * ((p2 + p3 + p4 + p5) + 256 * ((p3 + p4 + p5 + p6) + 256 * ((p4 + p5 + p6 + p7) + 256 * ((p5 + p6 + p7) + 256 * ((p6 + p7) + 256 * p7)))))) by omega]
  rw [d3 (by omega) (by omega) (by omega) (by omega), Nat.mod_eq_of_lt (a := _ + (p4 + p5 + p6 + p7 + _)) (by omega)]
  omega
def pop (x : W) : W :=
  let a := ((x >>> 1) &&& 0x5555555555555555#64) + (x &&& 0x5555555555555555#64)
  let b := ((a >>> 2) &&& 0x3333333333333333#64) + (a &&& 0x3333333333333333#64)
  let c := ((b >>> 4) + b) &&& 0x0f0f0f0f0f0f0f0f#64
  let d := c + (c >>> 8)
  let e := d + (d >>> 16)
  e + (e >>> 32)
theorem toNat_shr (x : W) (n : Nat) : (x >>> n).toNat = x.toNat / 2 ^ n := by rw [BitVec.toNat_ushiftRight, Nat.shiftRight_eq_div_pow]
theorem pop_eq (x : W) : (pop x).toNat % 128 = cnt 64 x.toNat := by
  have hx := x.isLt
  have hst := (stage 8 x.toNat (by exact hx)).2
  have hM1 : rep 0x55 8 = 0x5555555555555555 := by decide
  have hM2 : rep 0x33 8 = 0x3333333333333333 := by decide
  have hM3 : rep 0x0f 8 = 0x0f0f0f0f0f0f0f0f := by decide
  rw [hM1, hM2, hM3] at hst
  obtain ⟨a, ha⟩ : ∃ a, a = ((x >>> 1) &&& 0x5555555555555555#64) + (x &&& 0x5555555555555555#64) := ⟨_, rfl⟩
  obtain ⟨b, hb⟩ : ∃ b, b = ((a >>> 2) &&& 0x3333333333333333#64) + (a &&& 0x3333333333333333#64) := ⟨_, rfl⟩
  obtain ⟨c, hc⟩ : ∃ c, c = ((b >>> 4) + b) &&& 0x0f0f0f0f0f0f0f0f#64 := ⟨_, rfl⟩
  have hp : pop x = (c + (c >>> 8) + ((c + (c >>> 8)) >>> 16)) + ((c + (c >>> 8) + ((c + (c >>> 8)) >>> 16)) >>> 32) := by rw [hc, hb, ha]; rfl
  have ha' : a.toNat = s1 0x5555555555555555 x.toNat := by
    rw [ha, BitVec.toNat_add, BitVec.toNat_and, BitVec.toNat_and, toNat_shr]
    have h1 : x.toNat / 2 ^ 1 &&& (0x5555555555555555#64).toNat ≤ 0x5555555555555555 := Nat.and_le_right
    have h2 : x.toNat &&& (0x5555555555555555#64).toNat ≤ 0x5555555555555555 := Nat.and_le_right
    rw [Nat.mod_eq_of_lt (by omega)]; rfl
  have hb' : b.toNat = s2 0x3333333333333333 a.toNat := by
    rw [hb, BitVec.toNat_add, BitVec.toNat_and, BitVec.toNat_and, toNat_shr]
    have h1 : a.toNat / 2 ^ 2 &&& (0x3333333333333333#64).toNat ≤ 0x3333333333333333 := Nat.and_le_right
    have h2 : a.toNat &&& (0x3333333333333333#64).toNat ≤ 0x3333333333333333 := Nat.and_le_right
    rw [Nat.mod_eq_of_lt (by omega)]; rfl
  have hbl : b.toNat ≤ 0x6666666666666666 := by
    rw [hb']; unfold s2
    have h1 : a.toNat / 4 &&& 0x3333333333333333 ≤ 0x3333333333333333 := Nat.and_le_right
    have h2 : a.toNat &&& 0x3333333333333333 ≤ 0x3333333333333333 := Nat.and_le_right
    omega
  have hc' : c.toNat = spread 8 x.toNat := by
    rw [← hst, ← ha', ← hb', hc, BitVec.toNat_and, BitVec.toNat_add, toNat_shr, Nat.mod_eq_of_lt (by omega)]; rfl
  obtain ⟨p0, p1, p2, p3, p4, p5, p6, p7, h0, h1, h2, h3, h4, h5, h6, h7, hs, hcnt⟩ := spread8 x.toNat
  rw [hcnt, hp]
  rw [hs] at hc'
  simp only [BitVec.toNat_add, toNat_shr]
  rw [hc']
  clear hc' hs hcnt hp hst hM1 hM2 hM3 ha hb hc ha' hb' hbl
  exact pop_sum h0 h1 h2 h3 h4 h5 h6 h7

instance : LitN 1 1 := ⟨rfl, by decide⟩
instance : LitN 4 4 := ⟨rfl, by decide⟩
instance : LitN 8 8 := ⟨rfl, by decide⟩
instance : LitN 16 16 := ⟨rfl, by decide⟩
instance : LitN 32 32 := ⟨rfl, by decide⟩
instance : LitN 58 58 := ⟨rfl, by decide⟩
instance : LitW 6148914691236517205 0x5555555555555555#64 := ⟨by decide⟩
instance : LitW 3689348814741910323 0x3333333333333333#64 := ⟨by decide⟩
instance : LitW 1085102592571150095 0x0f0f0f0f0f0f0f0f#64 := ⟨by decide⟩
instance : LitW 285870213051353865 285870213051353865#64 := ⟨by decide⟩
section
variable {P : Program} {X : Cx} {E : TEnv} {Th : List Root}
theorem opt_shrC {t u : TypeId} {x y : Operand} {c : Int} {a : W} {k : IntKind} {n : Nat} (hx : evTV E x = some (tw a)) (hy : evTV E y = some (.v (.int k c))) (o1 : okOpd P x = true) (o2 : okOpd P y = true) [hc : LitN c n] (hn : c < 64) : OpT P X E Th (.binOp .shr t x y u) (tw (a >>> n)) Th .no :=
  opt_shrW hx (by rw [hy, hc.h]) o1 o2 (by have := hc.h; omega)
theorem opt_andC {t u : TypeId} {x y : Operand} {c : Int} {a b : W} (hx : evTV E x = some (tw a)) (hy : evTV E y = some (.v (.int .u64 c))) (o1 : okOpd P x = true) (o2 : okOpd P y = true) [hc : LitW c b] : OpT P X E Th (.binOp .and t x y u) (tw (a &&& b)) Th .no :=
  opt_andW hx (by rw [hy, hc.h]) o1 o2
theorem opt_mulC {t u : TypeId} {x y : Operand} {c : Int} {a b : W} (hx : evTV E x = some (tw a)) (hy : evTV E y = some (.v (.int .u64 c))) (o1 : okOpd P x = true) (o2 : okOpd P y = true) [hc : LitW c b] : OpT P X E Th (.binOp .mul t x y u) (tw (a * b)) Th .no :=
  opt_mulW hx (by rw [hy, hc.h]) o1 o2
theorem opt_subC {t u : TypeId} {x y : Operand} {c : Int} {a b : W} (hx : evTV E x = some (tw a)) (hy : evTV E y = some (.v (.int .u64 c))) (o1 : okOpd P x = true) (o2 : okOpd P y = true) [hc : LitW c b] : OpT P X E Th (.binOp .sub t x y u) (tw (a - b)) Th .no :=
  opt_subW hx (by rw [hy, hc.h]) o1 o2
theorem ofInt_wrap (w : W) : BitVec.ofInt 64 (IntKind.i64.wrap (w.toNat : Int)) = w := by
  apply BitVec.eq_of_toNat_eq
  have h := w.isLt
  unfold IntKind.wrap
  have hb : IntKind.i64.bits = 64 := rfl
  have hs : IntKind.i64.signed = true := rfl
  simp only [hb, hs, Bool.true_and, BitVec.toNat_ofInt]
  split <;> omega
theorem opt_low7 {t u : TypeId} {x y : Operand} {w : W} (hx : evTV E x = some (ti (IntKind.i64.wrap (w.toNat : Int)))) (hy : evTV E y = some (ti 127)) (o1 : okOpd P x = true) (o2 : okOpd P y = true) : OpT P X E Th (.binOp .and t x y u) (ti ((w.toNat % 128 : Nat) : Int)) Th .no := by
  refine opt_ibin hx hy o1 o2 ?_ rfl
  simp only [ibin]
  have e : (BitVec.ofInt IntKind.i64.bits (IntKind.i64.wrap (w.toNat : Int)) &&& BitVec.ofInt IntKind.i64.bits 127).toNat = w.toNat % 128 := by
    rw [show BitVec.ofInt IntKind.i64.bits (IntKind.i64.wrap (w.toNat : Int)) = w from ofInt_wrap w]
    exact (BitVec.toNat_and _ _).trans (Nat.and_two_pow_sub_one_eq_mod w.toNat 7)
  rw [e]
  exact congrArg (fun x => some (Value.int .i64 x)) (wrap64n (by omega))
end
end Go.Ab
namespace Go.Ab
theorem cnt_word (w : W) : cnt 64 w.toNat = ((List.range 64).filter fun j => w.getLsbD j).length := cnt_filter 64 w.toNat
def listS (s : BS) (i : Nat) : List Int := ((List.range (64 * i)).filter (hasB s)).map fun (n : Nat) => (n : Int)
def bitsW (i : Nat) (w : W) : List Int := ((List.range 64).filter fun j => w.getLsbD j).map fun (j : Nat) => (64 * (i : Int) + (j : Int))
theorem listS_four (s : BS) : listS s 4 = listB s := rfl
theorem hasB_at {s : BS} {i j : Nat} (hj : j < 64) : hasB s (64 * i + j) = (at' s.ws i).getLsbD j := by
  unfold hasB
  rw [show (64 * i + j) / 64 = i by omega, show (64 * i + j) % 64 = j by omega]
theorem listS_succ (s : BS) (i : Nat) : listS s (i + 1) = listS s i ++ bitsW i (at' s.ws i) := by
  unfold listS bitsW
  rw [show 64 * (i + 1) = 64 * i + 64 by omega, List.range_add, List.filter_append, List.map_append, List.filter_map, List.map_map]
  congr 1
  have : (List.range 64).filter (hasB s ∘ fun x => 64 * i + x) = (List.range 64).filter fun j => (at' s.ws i).getLsbD j := by
    apply List.filter_congr
    intro j hj
    exact hasB_at (by simpa using hj)
  rw [this]
  apply List.map_congr_left
  intro j _
  simp
theorem bitsW_len (i : Nat) (w : W) : (bitsW i w).length = cnt 64 w.toNat := by rw [cnt_word]; simp [bitsW]
theorem listS_len (s : BS) : ∀ i, (listS s i).length ≤ 64 * i
  | 0 => by simp [listS]
  | i + 1 => by
    have := listS_len s i
    have h := cnt_le 64 (at' s.ws i).toNat
    rw [listS_succ, List.length_append, bitsW_len]; omega
theorem mem_bitsW {i : Nat} {w : W} {r : Int} : r ∈ bitsW i w ↔ ∃ j : Nat, j < 64 ∧ w.getLsbD j = true ∧ r = 64 * (i : Int) + (j : Int) := by
  unfold bitsW
  simp only [List.mem_map, List.mem_filter, List.mem_range]
  constructor
  · rintro ⟨j, ⟨h1, h2⟩, rfl⟩; exact ⟨j, h1, h2, rfl⟩
  · rintro ⟨j, h1, h2, rfl⟩; exact ⟨j, ⟨h1, h2⟩, rfl⟩
theorem pw_bitsW (i : Nat) (w : W) : (bitsW i w).Pairwise (· < ·) := by
  unfold bitsW
  rw [List.pairwise_map]
  exact (List.pairwise_lt_range.filter _).imp fun h => by omega
theorem bitsW_zero (i : Nat) : bitsW i 0#64 = [] := by
  unfold bitsW
  rw [List.filter_eq_nil_iff.2 (by intro j _; simp)]; rfl
theorem low_ex {w : W} (h : w ≠ 0#64) : ∃ t m : Nat, t < 64 ∧ w.toNat = 2 ^ (t + 1) * m + 2 ^ t := by
  have hx : w.toNat ≠ 0 := fun e => h (BitVec.eq_of_toNat_eq (by simpa using e))
  have hl := w.isLt
  generalize w.toNat = x at hx hl
  have : ∀ n x : Nat, x ≠ 0 → x < 2 ^ n → ∃ t m : Nat, t < n ∧ x = 2 ^ (t + 1) * m + 2 ^ t := by
    intro n
    induction n with
    | zero => intro x h1 h2; simp at h2; omega
    | succ n ih =>
      intro x h1 h2
      by_cases hp : x % 2 = 1
      · exact ⟨0, x / 2, by omega, by simp; omega⟩
      · obtain ⟨t, m, h3, h4⟩ := ih (x / 2) (by omega) (by rw [Nat.pow_succ] at h2; omega)
        refine ⟨t + 1, m, by omega, ?_⟩
        have : x = 2 * (x / 2) := by omega
        rw [this, h4, Nat.pow_succ 2 (t + 1), Nat.pow_succ 2 t, Nat.mul_add, Nat.mul_comm (2 ^ t * 2) 2, Nat.mul_assoc 2 (2 ^ t * 2) m, Nat.mul_comm 2 (2 ^ t)]
  exact this 64 x hx hl
theorem bits_dec {w : W} {t m : Nat} (ht : t < 64) (h : w.toNat = 2 ^ (t + 1) * m + 2 ^ t) (j : Nat) : w.getLsbD j = (if j ≤ t then decide (j = t) else m.testBit (j - (t + 1))) := by
  show w.toNat.testBit j = _
  rw [h, Nat.testBit_two_pow_mul_add _ (Nat.pow_lt_pow_right (by decide) (by omega))]
  by_cases h1 : j ≤ t
  · rw [if_pos (by omega), if_pos h1, Nat.testBit_two_pow]
    exact decide_eq_decide.2 ⟨fun e => e.symm, fun e => e.symm⟩
  · rw [if_neg (by omega), if_neg h1]
theorem bits_pred {w : W} {t m : Nat} (ht : t < 64) (h : w.toNat = 2 ^ (t + 1) * m + 2 ^ t) (j : Nat) : (w - 1#64).getLsbD j = (if j ≤ t then decide (j < t) else m.testBit (j - (t + 1))) := by
  have hp : 0 < 2 ^ t := Nat.two_pow_pos t
  have hw : (w - 1#64).toNat = 2 ^ (t + 1) * m + (2 ^ t - 1) := by
    have hl := w.isLt
    rw [BitVec.toNat_sub]
    have : (1#64).toNat = 1 := rfl
    rw [this, show (2 : Nat) ^ 64 - 1 + w.toNat = (w.toNat - 1) + 2 ^ 64 by omega, Nat.add_mod_right, Nat.mod_eq_of_lt (by omega)]
    omega
  show (w - 1#64).toNat.testBit j = _
  have hlt : 2 ^ t - 1 < 2 ^ (t + 1) := by rw [Nat.pow_succ]; omega
  rw [hw, Nat.testBit_two_pow_mul_add _ hlt]
  by_cases h1 : j ≤ t
  · rw [if_pos (by omega), if_pos h1, Nat.testBit_two_pow_sub_one]
  · rw [if_neg (by omega), if_neg h1]
theorem neg_and {w : W} {t m : Nat} (ht : t < 64) (h : w.toNat = 2 ^ (t + 1) * m + 2 ^ t) : w &&& (-w) = 1#64 <<< t := by
  have e : -w = ~~~(w - 1#64) := by
    apply BitVec.eq_of_toNat_eq
    rw [BitVec.toNat_not, BitVec.toNat_neg, BitVec.toNat_sub]
    have : (1#64).toNat = 1 := rfl
    have hl := w.isLt
    rw [this]
    omega
  apply BitVec.eq_of_getLsbD_eq
  intro j hj
  rw [e, BitVec.getLsbD_and, BitVec.getLsbD_not, bits_dec ht h, bits_pred ht h, one_shl hj]
  by_cases h1 : j ≤ t
  · rw [if_pos h1, if_pos h1]
    by_cases h2 : j = t
    · subst h2; simp [hj]
    · have : ¬ t = j := fun e => h2 e.symm
      simp [h2, this]
  · rw [if_neg h1, if_neg h1]
    have : ¬ t = j := by omega
    simp [this]
    exact fun h _ => h
theorem bits_clear {i : Nat} {w : W} {t m : Nat} (ht : t < 64) (h : w.toNat = 2 ^ (t + 1) * m + 2 ^ t) : bitsW i w = (64 * (i : Int) + (t : Int)) :: bitsW i (w &&& (w - 1#64)) := by
  have hb : ∀ j, (w &&& (w - 1#64)).getLsbD j = (decide (t < j) && w.getLsbD j) := by
    intro j
    rw [BitVec.getLsbD_and, bits_pred ht h, bits_dec ht h]
    by_cases h1 : j ≤ t
    · rw [if_pos h1, if_pos h1]
      have : ¬ t < j := by omega
      by_cases h2 : j = t
      · subst h2; simp
      · simp [h2, this]
    · rw [if_neg h1, if_neg h1]
      have : t < j := by omega
      simp [this]
  refine ext_pw (pw_bitsW i w) ?_ fun r => ?_
  · refine List.Pairwise.cons (fun r hr => ?_) (pw_bitsW i _)
    obtain ⟨j, h1, h2, rfl⟩ := mem_bitsW.1 hr
    rw [hb] at h2
    have : t < j := by simp at h2; exact h2.1
    omega
  · rw [List.mem_cons, mem_bitsW, mem_bitsW]
    constructor
    · rintro ⟨j, h1, h2, rfl⟩
      by_cases h3 : j = t
      · left; rw [h3]
      · right
        refine ⟨j, h1, ?_, rfl⟩
        rw [hb, h2]
        have := bits_dec ht h j
        rw [h2] at this
        by_cases h4 : j ≤ t
        · rw [if_pos h4] at this; simp [h3] at this
        · simp; omega
    · rintro (rfl | ⟨j, h1, h2, rfl⟩)
      · exact ⟨t, ht, by rw [bits_dec ht h]; simp, rfl⟩
      · rw [hb] at h2; simp at h2; exact ⟨j, h1, h2.2, rfl⟩
theorem neg_run {P : Program} (w : W) : pureV P (Op.unary .neg (.int .u64 (w.toNat : Int))) = some (.int .u64 ((-w).toNat : Int)) := by
  have e : IntKind.u64.wrap (0 - (w.toNat : Int)) = ((-w).toNat : Int) := by
    have h := w.isLt
    unfold IntKind.wrap
    have hb : IntKind.u64.bits = 64 := rfl
    have hs : IntKind.u64.signed = false := rfl
    simp only [hb, hs, Bool.false_and, Bool.false_eq_true, if_false]
    rw [BitVec.toNat_neg]
    omega
  rw [← e]; rfl
def sizeS (s : BS) : Nat → Nat
  | 0 => 0
  | i + 1 => sizeS s i + cnt 64 (at' s.ws i).toNat
theorem sizeS_eq (s : BS) : ∀ i, sizeS s i = (listS s i).length
  | 0 => rfl
  | i + 1 => by rw [sizeS, sizeS_eq s i, listS_succ, List.length_append, bitsW_len]
end Go.Ab
namespace Go.Ab
theorem eff_at {i lo hi j o : Nat} (h : (EffD.at i lo hi).fn j o = true) : (EffD.all i).fn j o = true := by
  simp only [EffD.fn, effAt, effAll, Bool.and_eq_true] at h ⊢
  exact h.1.1
def SortedTo (ys : List Int) (i : Nat) : Prop := ∀ a b, a < b → b < i → at' ys a ≤ at' ys b
def Ins (ys : List Int) (i j : Nat) : Prop := ∀ a b, a < b → b ≤ i → b ≠ j → at' ys a ≤ at' ys b
theorem ins_start {ys : List Int} {i : Nat} (h : SortedTo ys i) : Ins ys i i := fun a b h1 h2 h3 => h a b h1 (by omega)
theorem mem_at {ys : List Int} {r : Int} : r ∈ ys ↔ ∃ k, k < ys.length ∧ at' ys k = r := by
  rw [List.mem_iff_getElem]
  constructor
  · rintro ⟨k, h, e⟩; exact ⟨k, h, by simp [at', h, e]⟩
  · rintro ⟨k, h, e⟩; exact ⟨k, h, by simpa [at', h] using e⟩
theorem swap_at {ys : List Int} {j k : Nat} (hj : j < ys.length) (h0 : 0 < j) : at' ((ys.set j (at' ys (j - 1))).set (j - 1) (at' ys j)) k = if k = j - 1 then at' ys j else if k = j then at' ys (j - 1) else at' ys k := by
  rw [at_set (by rw [List.length_set]; omega)]
  split
  · rfl
  · rw [at_set hj]
theorem swap_mem {ys : List Int} {j : Nat} (hj : j < ys.length) (h0 : 0 < j) (r : Int) : r ∈ (ys.set j (at' ys (j - 1))).set (j - 1) (at' ys j) ↔ r ∈ ys := by
  rw [mem_at, mem_at]
  constructor
  · rintro ⟨k, hk, rfl⟩
    rw [List.length_set, List.length_set] at hk
    rw [swap_at hj h0]
    split
    · exact ⟨j, hj, rfl⟩
    · split
      · exact ⟨j - 1, by omega, rfl⟩
      · exact ⟨k, hk, rfl⟩
  · rintro ⟨k, hk, rfl⟩
    by_cases h1 : k = j - 1
    · refine ⟨j, by rw [List.length_set, List.length_set]; exact hj, ?_⟩
      rw [swap_at hj h0, if_neg (by omega), if_pos rfl, h1]
    · by_cases h2 : k = j
      · refine ⟨j - 1, by rw [List.length_set, List.length_set]; omega, ?_⟩
        rw [swap_at hj h0, if_pos rfl, h2]
      · refine ⟨k, by rw [List.length_set, List.length_set]; exact hk, ?_⟩
        rw [swap_at hj h0, if_neg h1, if_neg h2]
theorem ins_step {ys : List Int} {i j : Nat} (h : Ins ys i j) (hj : j < ys.length) (h0 : 0 < j) (hji : j ≤ i) (hlt : at' ys j < at' ys (j - 1)) : Ins ((ys.set j (at' ys (j - 1))).set (j - 1) (at' ys j)) i (j - 1) := by
  intro a b h1 h2 h3
  rw [swap_at hj h0, swap_at hj h0]
  by_cases hb : b = j
  · rw [if_neg h3, if_pos hb]
    by_cases ha : a = j - 1
    · rw [if_pos ha]; omega
    · rw [if_neg ha, if_neg (by omega)]
      exact h a (j - 1) (by omega) (by omega) (by omega)
  · rw [if_neg h3, if_neg hb]
    by_cases ha : a = j - 1
    · rw [if_pos ha]; exact h j b (by omega) h2 hb
    · rw [if_neg ha]
      by_cases ha2 : a = j
      · rw [if_pos ha2]; exact h (j - 1) b (by omega) h2 hb
      · rw [if_neg ha2]; exact h a b h1 h2 hb
theorem ins_end {ys : List Int} {i j : Nat} (h : Ins ys i j) (hc : j = 0 ∨ at' ys (j - 1) ≤ at' ys j) : SortedTo ys (i + 1) := by
  intro a b h1 h2
  by_cases hb : b = j
  · rcases hc with hc | hc
    · omega
    · subst hb
      by_cases ha : a = b - 1
      · rw [ha]; exact hc
      · have := h a (b - 1) (by omega) (by omega) (by omega); omega
  · exact h a b h1 (by omega) hb
section
variable {P : Program} {X : Cx} {E : TEnv} {Th : List Root}
theorem opt_subN {t u : TypeId} {x y : Operand} {a b : Nat} {c : Int} (hx : evTV E x = some (ti (a : Int))) (hy : evTV E y = some (ti c)) (o1 : okOpd P x = true) (o2 : okOpd P y = true) [hc : LitN c b] (h : c ≤ a) (ha : a < 2 ^ 63) : OpT P X E Th (.binOp .sub t x y u) (ti ((a - b : Nat) : Int)) Th .no := by
  have h2 := hc.h
  have := opt_sub (P := P) (X := X) (Th := Th) (t := t) (u := u) hx hy o1 o2 (by constructor <;> omega)
  rw [show ((a - b : Nat) : Int) = (a : Int) - c by omega]
  exact this
end
end Go.Ab
namespace Go.Ab
section
variable {P : Program} {X : Cx} {E : TEnv} {Th : List Root}
theorem strE {t : TypeId} {x i : Operand} {j : Nat} {k : IntKind} {s : ByteArray} (hx : evTV E x = some (.v (.string s))) (hi : evTV E i = some (.v (.int k (j : Int)))) (o1 : okOpd P x = true) (o2 : okOpd P i = true) (hu : P.underlying t = some .string) (hj : j < s.size) : ∃ m : Nat, m < 256 ∧ OpT P X E Th (.index t x i) (.v (.int .u8 (m : Int))) Th .no := by
  refine ⟨(s[j]'hj).toNat, UInt8.toNat_lt _, ?_⟩
  refine opt_quiet (fun _ => .inl (by simp)) (by simp [Op.operands, o1, o2]) fun T G p hr => ⟨.int .u8 ((s[j]'hj).toNat : Int), ?_, .flat rfl⟩
  have e1 := (hr.ev hx o1).flat_eq
  have e2 := (hr.ev hi o2).flat_eq
  simp [stepOp, indexA, e1, e2, hu, hj]
end
end Go.Ab
namespace Go.Ab
theorem vrs_rep {G : Heap} {D : Nat → Prop} {p : Pl} {z : Value} (hz : flat1 z = true) : ∀ n, VRs G D p (List.replicate n (.v z)) (List.replicate n z)
  | 0 => .nil
  | n + 1 => .cons (.flat hz) (vrs_rep hz n)
theorem zerosA_one {z : Value} (h1 : z.cells.size = 1) (h2 : z.cells[0]! = z) (n : Nat) : zerosA z n = List.replicate n z := by
  unfold zerosA
  rw [h1]
  simp only [Nat.mod_one, h2]
  rw [List.map_const', List.length_range]
section
variable {P : Program} {X : Cx} {E : TEnv} {Th : List Root}
theorem opt_clear {t e : TypeId} {x : Operand} {by_ i g off m cap : Nat} {z : Value} {cs : List TV} [hE : ElI P t e] [hB : ByI P e by_ z] (hx : evTV E x = some (.own i g 1 off (m + 1) cap)) (hi : Th[i]? = some ⟨g, some (e, cs)⟩) (o1 : okOpd P x = true) (hz : flat1 z = true) (h1 : z.cells.size = 1) (h2 : z.cells[0]! = z) (hle : off + (m + 1) ≤ cs.length) :
    OpT P X E Th (.call { callee := .builtin .clear, args := #[x], argTypes := #[t] }) (.tup []) (Th.set i ⟨g, some (e, spliceT cs off (List.replicate (m + 1) (.v z)))⟩) (.all i) := by
  refine ⟨⟨nocall (by simp), by simp [Op.operands, Call.operands, o1]⟩, fun T G p hr => ?_⟩
  have hv := hr.ev hx o1
  rcases own_inv hr hv hi with ⟨b, vs, k1, k2, k3, k4⟩ | ⟨_, q, _⟩
  · obtain ⟨q1, q2⟩ := hr.hr.put hi k2 (k4.splice (vrs_rep (G := G) (D := X.D) (p := p) hz (m + 1)) off)
    have hvl : off + (m + 1) ≤ vs.length := by rw [← k4.length]; exact hle
    refine ⟨.tuple #[], G.setIfInBounds b (some ⟨splice vs off (List.replicate (m + 1) z), e, false⟩), p, ?_, ?_, q1, .tup .nil⟩
    · have hfl : flat z = true := by cases z <;> first | exact hz | simp [flat1] at hz
      simp only [stepOp, List.map_cons, List.map_nil, k1, clearA, hE.el, hB.ze, k3, h1, Nat.mul_one]
      rw [if_pos ⟨trivial, hfl, by decide, hvl⟩, zerosA_one h1 h2]
    · refine StR.put hr.hr k2 q2 (fun o ho => ?_) ⟨0, by simp [EffD.fn, effAll]⟩
      simp [EffD.fn, effAll] at ho
  · cases q
variable {α : Type} [Enc α]
theorem dr_pre {t : Bool} {i g n sz cap : Nat} {e : TypeId} {xs : List α} (h : Th[i]? = some (rl g e xs)) (hl : n ≤ xs.length) (hsz : sz = Enc.sz α) (hn : n < 2 ^ 62) (hc : n ≤ cap) : Dr Th t (.own i g sz 0 n cap) (lst t (xs.take n)) := by
  subst hsz
  have hle : n * Enc.sz α ≤ xs.length * Enc.sz α := Nat.mul_le_mul_right _ hl
  have e1 : lst t (xs.take n) = .fz t (Enc.sz α) n ((xs.take n).flatMap cls) := by
    show TV.fz t (Enc.sz α) (xs.take n).length _ = _
    rw [List.length_take, Nat.min_eq_left hl]
  rw [e1]
  refine .own h (by rw [flat_len]; omega) hc hn Enc.pos ?_
  rw [flat_drop, flat_take]
  simp only [List.drop_zero]
  exact Drs.cl (flat_cl _)
theorem opt_index_ownN {t e : TypeId} {x i : Operand} {ag : Bool} {sz l g off n cap : Nat} {e' : TypeId} {cs : List TV} {k : IntKind} {j : Nat} [hE : ElI P t e] [hT : TyI P e ag sz] (hx : evTV E x = some (.own l g sz off n cap)) (hl : Th[l]? = some ⟨g, some (e', cs)⟩) (hi : evTV E i = some (.v (.int k (j : Int)))) (o1 : okOpd P x = true) (o2 : okOpd P i = true) (hj : j < n) :
    OpT P X E Th (.indexAddr t x i) (.pt l g ((off + j) * sz)) Th .no := by
  have := opt_index_own (X := X) (hE := hE) (hT := hT) hx hl hi o1 o2 (by omega) (by omega)
  rw [Int.toNat_natCast, ← Nat.add_mul] at this
  exact this
theorem opt_slice_own_lo {t e : TypeId} {x y : Operand} {ag : Bool} {sz i g n cap l : Nat} {k : IntKind} {e' : TypeId} {cs : List TV} [hE : ElI P t e] [hT : TyI P e ag sz] (hx : evTV E x = some (.own i g sz 0 n cap)) (hi' : Th[i]? = some ⟨g, some (e', cs)⟩) (hy : evTV E y = some (.v (.int k (l : Int)))) (o1 : okOpd P x = true) (o2 : okOpd P y = true) (hl : l ≤ n) (hc : n ≤ cap) (h0 : Nat.blt 0 sz = true) :
    OpT P X E Th (.slice t x (some y) none none) (.own i g sz l (n - l) (cap - l)) Th .no := by
  rw [Nat.blt_eq] at h0
  have := opt_slice_own (X := X) (hE := hE) (hT := hT) (lo := some y) (hi := none) (l := l) (h := n) hx hi' o1 ⟨o2, k, hy⟩ rfl hl (Nat.le_refl _) hc h0
  rw [Nat.zero_add] at this
  exact this
theorem opt_slice_own_hi {t e : TypeId} {x y : Operand} {ag : Bool} {sz i g off n cap h : Nat} {k : IntKind} {e' : TypeId} {cs : List TV} [hE : ElI P t e] [hT : TyI P e ag sz] (hx : evTV E x = some (.own i g sz off n cap)) (hi' : Th[i]? = some ⟨g, some (e', cs)⟩) (hy : evTV E y = some (.v (.int k (h : Int)))) (o1 : okOpd P x = true) (o2 : okOpd P y = true) (hh : h ≤ n) (hc : n ≤ cap) (h0 : Nat.blt 0 sz = true) :
    OpT P X E Th (.slice t x none (some y) none) (.own i g sz off h cap) Th .no := by
  rw [Nat.blt_eq] at h0
  exact opt_slice_own (X := X) (hE := hE) (hT := hT) (lo := none) (hi := some y) (l := 0) (h := h) hx hi' o1 rfl ⟨o2, k, hy⟩ (Nat.zero_le _) hh hc h0
theorem rep_int : ∀ n : Nat, List.replicate n (TV.v (.int .i64 0)) = (List.replicate n (0 : Int)).flatMap cls
  | 0 => rfl
  | n + 1 => by rw [List.replicate_succ, List.replicate_succ, List.flatMap_cons, ← rep_int n]; rfl
theorem opt_clear_tl {t e : TypeId} {x : Operand} {by_ i g k m cap : Nat} {xs : List Int} [hE : ElI P t e] [hB : ByI P e by_ (.int .i64 0)] (hx : evTV E x = some (.own i g 1 k m cap)) (hi : Th[i]? = some (rl g e xs)) (o1 : okOpd P x = true) (hm : m = xs.length - k) (hk : k < xs.length) :
    OpT P X E Th (.call { callee := .builtin .clear, args := #[x], argTypes := #[t] }) (.tup []) (Th.set i (rl g e (xs.take k ++ List.replicate (xs.length - k) 0))) (.all i) := by
  subst hm
  obtain ⟨m, hm⟩ : ∃ m, xs.length - k = m + 1 := ⟨xs.length - k - 1, by omega⟩
  rw [hm] at hx ⊢
  have hfl : ∀ ys : List Int, (ys.flatMap cls).length = ys.length := fun ys => by rw [flat_len]; exact Nat.mul_one _
  have := opt_clear (X := X) (hE := hE) (hB := hB) hx hi o1 rfl rfl rfl (by rw [hfl]; omega)
  have e1 : spliceT (xs.flatMap cls) k (List.replicate (m + 1) (TV.v (.int .i64 0))) = (xs.take k ++ List.replicate (m + 1) (0 : Int)).flatMap cls := by
    unfold spliceT
    rw [rep_int, List.drop_eq_nil_of_le (by rw [hfl, hfl, List.length_replicate]; omega), List.append_nil, List.flatMap_append]
    congr 1
    have := flat_take xs k
    rw [show k * Enc.sz Int = k from Nat.mul_one k] at this
    exact this
  rw [e1] at this
  exact this
theorem opt_append_p {t e : TypeId} {ag : Bool} {by_ i g n cap : Nat} {z : Value} {x y : Operand} {b : TV} {xs ys : List α} [hE : ElI P t e] {sz1 : Nat} [hT : TyI P e ag sz1] [hB : ByI P e by_ z] (hx : evTV E x = some (.own i g (Enc.sz α) 0 n cap)) (hy : evTV E y = some b) (hi : Th[i]? = some (rl g e xs)) (hn : n ≤ xs.length) (hs : Src Th (Enc.sz α) b ys.length (ys.flatMap cls)) (o1 : okOpd P x = true) (o2 : okOpd P y = true)
    (hz : z.cells.size = Enc.sz α) (hlen : (n + ys.length) * (by_ + 1) ≤ 2 ^ 47) (hsz : sz1 = Enc.sz α) :
    OpT P X E Th (.call { callee := .builtin .append, args := #[x, y], argTypes := #[t, t] }) (ownl i (g + 1) (xs.take n ++ ys)) (Th.set i (rl (g + 1) e (xs.take n ++ ys))) (.all i) := by
  subst hsz
  have h0 : Nat.blt 0 (Enc.sz α) = true := by rw [Nat.blt_eq]; exact Enc.pos
  have hle : n * Enc.sz α ≤ xs.length * Enc.sz α := Nat.mul_le_mul_right _ hn
  have := opt_append (X := X) (hE := hE) (hT := hT) (hB := hB) hx hy hi hs o1 o2 h0 hz (by rw [flat_len]; omega) hlen
  have e1 : ((xs.flatMap cls).drop (0 * Enc.sz α)).take (n * Enc.sz α) ++ ys.flatMap cls = (xs.take n ++ ys).flatMap cls := by
    rw [Nat.zero_mul, List.drop_zero, flat_take, List.flatMap_append]
  rw [e1] at this
  have e2 : (xs.take n ++ ys).length = n + ys.length := by rw [List.length_append, List.length_take, Nat.min_eq_left hn]
  unfold ownl
  rw [e2]
  exact this
theorem opt_append_q {t e : TypeId} {ag : Bool} {by_ i g n cap sz2 : Nat} {z : Value} {x y : Operand} {b : TV} {xs ys : List α} [hE : ElI P t e] {sz1 : Nat} [hT : TyI P e ag sz1] [hB : ByI P e by_ z] (hx : evTV E x = some (.own i g sz2 0 n cap)) (hy : evTV E y = some b) (hi : Th[i]? = some (rl g e xs)) (hn : n ≤ xs.length) (hs : Src Th (Enc.sz α) b ys.length (ys.flatMap cls)) (o1 : okOpd P x = true) (o2 : okOpd P y = true)
    (hz : z.cells.size = Enc.sz α) (hlen : (n + ys.length) * (by_ + 1) ≤ 2 ^ 47) (hsz : sz1 = Enc.sz α) (hs2 : sz2 = Enc.sz α) :
    OpT P X E Th (.call { callee := .builtin .append, args := #[x, y], argTypes := #[t, t] }) (ownl i (g + 1) (xs.take n ++ ys)) (Th.set i (rl (g + 1) e (xs.take n ++ ys))) (.all i) := by
  subst hs2
  exact opt_append_p hx hy hi hn hs o1 o2 hz hlen hsz
end
end Go.Ab
namespace Go.Ab
open Go.Proofs
theorem Rl.pushNone {X : Cx} {E : TEnv} {Th : List Root} {T : Array Value} {G : Heap} {p : Pl} (hr : Rl X E Th T G p) : Rl X E Th T (G.push none) p := by
  have hlt : ∀ b, isOwn p b → b < G.size := fun b ⟨i, g, hi⟩ => hr.hr.lt hi
  have hf := Fr.push G none
  have hl : LeP G p (G.push none) p := ⟨hf.size, fun b hb ho => ⟨hf.same b hb, ho⟩, fun i g o hi => ⟨g, o, hi, .inl ⟨rfl, .inl rfl⟩⟩⟩
  have hs : ∀ b, isOwn p b → (G.push none)[b]? = G[b]? := fun b hb => hf.same b (hlt b hb)
  exact ⟨hr.st.trans (StR.same hl hs) (fun i o _ h => by simp [noEff] at h), hr.ol, hr.hr.mono hl hs, fun k x hk => let ⟨w, h1, h2⟩ := hr.en k x hk; ⟨w, h1, h2.mono hl⟩, hr.dd, hr.gl.le hl⟩
def allD (n : Nat) : EffD := .many ((List.range n).map .all)
theorem fns_all {i o : Nat} : ∀ {l : List Nat}, i ∈ l → EffD.fns (l.map .all) i o = true
  | j :: l, h => by
    simp only [List.map_cons, EffD.fns, Bool.or_eq_true]
    rcases List.mem_cons.1 h with rfl | h
    · left; simp [EffD.fn, effAll]
    · right; exact fns_all h
theorem allD_ok {X : Cx} (h : X.f = allD X.p.length) (f : EffD) : EffOk X f := fun i o hi _ => by
  rw [h]; exact fns_all (List.mem_range.2 hi)
theorem vrs_one {G : Heap} {D : Nat → Prop} {p : Pl} {x : TV} {vs : List Value} (h : VRs G D p [x] vs) : ∃ v, vs = [v] ∧ VR G D p x v := by
  cases h with
  | cons a b => cases b; exact ⟨_, rfl, a⟩
theorem fn_inv {G : Heap} {D : Nat → Prop} {p : Pl} {f : FuncId} {x : TV} {w : Value} (h : VR G D p (.fn f [] [x]) w) : ∃ v, w = .func (.func f) ⟨[]⟩ ⟨[v]⟩ ∧ VR G D p x v := by
  cases h with
  | fn a b =>
    obtain ⟨v, rfl, h⟩ := vrs_one b
    cases a
    exact ⟨v, rfl, h⟩
theorem wct_back {X : Cx} {E : TEnv} {Th : List Root} {N : Nat} {Q : TPost} {f : Operand} {asg body : Go.Code} {tg tg2 : Bool} {xs : List Inst} (R : Nat → List Root) {a0 a1 : Tmp} (hX : X.p = [])
    (hf : evTV E f = some (.fn 85 [] [.fp tg [lst tg2 xs] 0])) (ho : okOpd Tryd.prog f = true) (h0 : Nat.blt a0 N = true) (h1 : Nat.blt a1 N = true) (hT : Th = R xs.length)
    (hstep : ∀ k, k < xs.length → ∀ X' : Cx, X'.p.length = (R (k + 1)).length → X'.tb = X.tb → (∀ f, EffOk X' f) → WCt Tryd.prog X' .round asg N ((a1, Enc.tv (at' xs k)) :: (a0, ti (k : Int)) :: E) (R (k + 1)) (QSt (fun E' Th' => WCt Tryd.prog X' .round body N E' Th' (fun e _ Th'' => e = .normal ∧ ∃ gar, Th'' = R k ++ gar)) (fun _ _ _ => False)))
    (hlen : ∀ k, (R (k + 1)).length = (R k).length) (hLo : ∀ k, LoR (R k).length (R k)) (hQ : Q .normal E (R 0)) : WCt Tryd.prog X .fn (.rangeFunc f #[a0, a1] asg body) N E Th Q := fun T G p hsz hr => by
  subst hT
  rw [Nat.blt_eq] at h0 h1
  obtain ⟨w0, hw, hv0⟩ := fn_inv (hr.ev hf ho)
  obtain ⟨b, o, vs, rfl, _, _, _⟩ := fp_inv hv0
  have hJs : ∀ k H, (∃ p', Rl X E (R k) T H p') → ∃ sv, loadA Tryd.prog H 57 ⟨b, o, none⟩ = some sv ∧ ((sv = .slice none 0 0 ∧ xs.length = 0) ∨ ∃ a cap, sv = .slice (some a) xs.length cap) ∧ ∀ j, k = j + 1 → k ≤ xs.length → ∃ pa v m H', indexAddrA Tryd.prog 57 sv (.int .i64 (j : Int)) = some (.pointer (some pa)) ∧ loadA Tryd.prog H 67 pa = some v ∧
      roundYl (execA Tryd.prog (callA Tryd.prog noPrim m) m .round asg) (execA Tryd.prog (callA Tryd.prog noPrim m) m .round body) #[a0, a1] T G.size G.size #[.int .i64 (j : Int), v] H = some (.bool true, H') ∧ (∃ p', Rl X E (R j) T H' p') := by
    rintro k H ⟨p1, hr1⟩
    obtain ⟨w1, hw1, hv1⟩ := fn_inv (hr1.ev hf ho)
    rw [hw] at hw1
    simp only [Value.func.injEq, true_and, Array.mk.injEq, List.cons.injEq, and_true] at hw1
    subst hw1
    obtain ⟨b', o', vs', hp', hcs, hvs, _⟩ := fp_inv hv1
    simp only [Value.pointer.injEq, Option.some.injEq, Addr.mk.injEq, Nat.add_zero, and_true] at hp'
    obtain ⟨rfl, rfl⟩ := hp'
    obtain ⟨sv, rfl, hsv⟩ := vrs_one hvs
    have hld : loadA Tryd.prog H 57 ⟨b, o, none⟩ = some sv := by
      have hag : isAggA Tryd.prog 57 = some false := by kernel_rfl
      have := cellsA_at hcs (i := 0) (by simp)
      simp only [loadA, hag]
      simpa using this
    refine ⟨sv, hld, ?_, ?_⟩
    · rcases fz_inv hsv with ⟨rfl, h, _⟩ | ⟨a, cap, _, rfl, _⟩
      · exact .inl ⟨rfl, h⟩
      · exact .inr ⟨a, cap, rfl⟩
    · rintro j rfl hk
      rcases fz_inv hsv with ⟨rfl, h, _⟩ | ⟨a, cap, us, rfl, h2, h3, h4, h5, h6, h7, h8⟩
      · omega
      have hel : elemA Tryd.prog 57 = some 67 := by kernel_rfl
      have hz : sizeA Tryd.prog 67 = some (Enc.sz Inst) := by kernel_rfl
      have hag : isAggA Tryd.prog 67 = some true := by kernel_rfl
      have hle : j * Enc.sz Inst + Enc.sz Inst ≤ xs.length * Enc.sz Inst := by
        have := Nat.mul_le_mul_right (Enc.sz Inst) hk
        rw [Nat.succ_mul] at this; exact this
      have hc := cellsA_sub h2 (i := j * Enc.sz Inst) (m := Enc.sz Inst) hle
      have hrow : VRs H X.D p1 (cls (at' xs j)) ((us.drop (j * Enc.sz Inst)).take (Enc.sz Inst)) := by
        have := (h3.drop (j * Enc.sz Inst)).take (Enc.sz Inst)
        rw [flat_row (by omega)] at this
        exact this
      obtain ⟨v, hve⟩ : ∃ v, v = Value.agg ⟨(us.drop (j * Enc.sz Inst)).take (Enc.sz Inst)⟩ := ⟨_, rfl⟩
      have hvv : VR H X.D p1 (Enc.tv (at' xs j)) v := by rw [hve]; exact VR.agg hrow
      have hT1 : Rl ⟨H, p1, X.D, allD p1.length, X.tb⟩ ((a1, Enc.tv (at' xs j)) :: (a0, ti (j : Int)) :: E) (R (j + 1)) ((T.setIfInBounds a0 (.int .i64 (j : Int))).setIfInBounds a1 v) H p1 := by
        have hb : Rl ⟨H, p1, X.D, allD p1.length, X.tb⟩ E (R (j + 1)) T H p1 := ⟨(StR.refl H p1).weak (fun i o h => by simp [noEff] at h), fun b ⟨i, g, hi⟩ => hr1.hr.lt hi, hr1.hr, hr1.en, hr1.d, hr1.gl⟩
        have hb1 := hb.put (f := .no) (StR.refl H p1) (EffOk.no _) hr1.hr (VR.flat (x := .int .i64 (j : Int)) rfl) (d := some a0) (by simp only [okDst]; rw [Nat.blt_eq]; omega)
        exact hb1.put (f := .no) (StR.refl H p1) (EffOk.no _) hr1.hr hvv (d := some a1) (by simp only [okDst, putT]; rw [Nat.blt_eq]; simp; omega)
      obtain ⟨n1, e1, T1, H1, hx1, hs1, E1, Th1, q1, hq1, hP1⟩ := hstep j (by omega) ⟨H, p1, X.D, allD p1.length, X.tb⟩ hr1.hr.len rfl (allD_ok rfl) _ H p1 (by simp; exact hsz) hT1
      cases e1 with
      | exit id => exact hP1.elim
      | ret => exact hP1.elim
      | normal =>
        obtain ⟨n2, e2, T2, H2, hx2, hs2, E2, Th2, q2, hq2, rfl, gar, rfl⟩ := hP1 T1 H1 q1 hs1 hq1
        obtain ⟨q2, hq2⟩ := g_pop (F := []) (Th1 := R j) rfl (by rw [← hlen j]; exact Nat.le_of_eq hr1.hr.len) trivial trivial (hLo j) _ _ _ hq2
        refine ⟨⟨a.block, a.off + j * Enc.sz Inst, none⟩, v, max n1 n2, H2, ?_, ?_, ?_, q2, ?_⟩
        · simp only [indexAddrA, hel, hz]
          rw [if_pos (by omega)]; simp
        · simp only [loadA, hag, hz, hc, Option.map_some, hve]
        · have u1 := exec_up (n' := max n1 n2) (by omega) hx1
          have u2 := exec_up (n' := max n1 n2) (by omega) hx2
          simp only [MK.md] at u1 u2
          have ez : putAll T #[a0, a1] #[.int .i64 (j : Int), v] = (T.setIfInBounds a0 (.int .i64 (j : Int))).setIfInBounds a1 v := by simp [putAll]
          simp [roundYl, ez, u1, u2]
        · exact ⟨hr1.st.trans hq2.st (fun i o hi _ => by rw [hX] at hi; simp at hi), hr1.ol, hq2.hr, fun k x hk => let ⟨w, k1, k2⟩ := hr1.en k x hk; ⟨w, k1, k2.mono hq2.st.le⟩, hr1.dd, hq2.gl⟩
  obtain ⟨c, hc⟩ : ∃ c, Tryd.f85.body = some c := ⟨_, rfl⟩
  have hn : xs.length < 2 ^ 62 := by
    cases hv0 with
    | fp q1 q2 q3 =>
      obtain ⟨sv, rfl, hsv⟩ := vrs_one q2
      exact (fz_lt hsv).1
  have hwalk := back_walk (asg := asg) (body := body) (ps := #[a0, a1]) (T0 := T) (l := G.size) (b := b) (o := o) (n := xs.length) (J := fun k H => ∃ p', Rl X E (R k) T H p') hn hJs hc (H := G.push none) ⟨p, hr.pushNone⟩
  obtain ⟨n, e, T', H', hx, hne, p', hr'⟩ := hwalk (frameA Tryd.f85 #[.func (.yield G.size) #[] #[], .pointer (some ⟨b, o, none⟩)]) (frame_size (vs := [_, _]) (by show 2 ≤ 19; decide)) (by
    intro k v hk
    simp only [lk_cons] at hk
    split at hk
    · rename_i e1; subst e1; cases hk; simp [frameA]
    · split at hk
      · rename_i e1; subst e1; cases hk; simp [frameA]
      · simp [lk] at hk)
  refine ⟨n + 1, .normal, T, H', ?_, hsz, E, R 0, p', hr', hQ⟩
  have hname : (Tryd.f85.name == "runtime.NumGoroutine") = false := by rfl
  have hx' := execA_mono (callA_mono noPrim n (n + 1) (by omega)) n n (Nat.le_refl n) (m' := .iter (roundYl (execA Tryd.prog (callA Tryd.prog noPrim (n + 1)) n .round asg) (execA Tryd.prog (callA Tryd.prog noPrim (n + 1)) n .round body) #[a0, a1] T G.size)) (.iter fun b' as' K r h => by
    have hl := callA_mono (P := Tryd.prog) noPrim n (n + 1) (by omega)
    simp only [roundYl] at h ⊢
    split at h
    rotate_left
    · cases h
    rename_i hb
    rw [if_pos hb]
    split at h
    rotate_left
    · cases h
    rename_i T2 H2 h2
    rw [execA_mono hl n n (Nat.le_refl n) .round h2]
    simp only
    split at h
    rotate_left
    · cases h
    rename_i T3 H3 h3
    rw [execA_mono hl n n (Nat.le_refl n) .round h3]
    exact h) hx
  have hres : resultsA Tryd.prog Tryd.f85 T' H' = some (.tuple #[]) := by rfl
  have hfr : (#[.func (.yield G.size) #[] #[]] ++ (⟨[.pointer (some ⟨b, o + 0, none⟩)]⟩ : Array Value)) = #[.func (.yield G.size) #[] #[], .pointer (some ⟨b, o, none⟩)] := rfl
  simp only [execA, MK.md, ho, if_true, hw, fn85, hname, hc, Bool.false_eq_true, if_false, hfr, hx']
  cases e with
  | exit id => exact absurd rfl (hne id)
  | normal => simp [hres]
  | ret => simp [hres]
theorem cl_back {xs : List Inst} : Cl (.fn 85 [] [.fp false [lst false xs] 0]) := by
  refine .fn (by simp) fun c hc => ?_
  rw [List.mem_singleton] at hc
  subst hc
  refine .fp fun c hc => ?_
  rw [List.mem_singleton] at hc
  subst hc
  exact lst_cl _
end Go.Ab
namespace Go.Ab
theorem mem_take_at {xs : List Int} {k : Nat} {v : Int} : v ∈ xs.take k ↔ ∃ a, a < k ∧ a < xs.length ∧ at' xs a = v := by
  rw [mem_at]
  constructor
  · rintro ⟨a, h, e⟩
    rw [List.length_take] at h
    refine ⟨a, by omega, by omega, ?_⟩
    rw [← e]
    simp only [at', List.getD_eq_getElem?_getD]
    rw [List.getElem?_take, if_pos (by omega)]
  · rintro ⟨a, h1, h2, e⟩
    refine ⟨a, by rw [List.length_take]; omega, ?_⟩
    rw [← e]
    simp only [at', List.getD_eq_getElem?_getD]
    rw [List.getElem?_take, if_pos h1]
theorem pw_take {xs : List Int} {k : Nat} (h : ∀ a b, a < b → b < k → at' xs a < at' xs b) : (xs.take k).Pairwise (· < ·) := by
  rw [List.pairwise_iff_getElem]
  intro i j hi hj hij
  rw [List.length_take] at hi hj
  have := h i j hij (by omega)
  have hi2 : i < xs.length := by omega
  have hj2 : j < xs.length := by omega
  simpa [at', hi2, hj2] using this
theorem strict_of {xs : List Int} {n k : Nat} (hs : SortedTo xs n) (hk : k ≤ n) (h : ∀ a, 0 < a → a < k → at' xs a ≠ at' xs (a - 1)) : ∀ a b, a < b → b < k → at' xs a < at' xs b := by
  intro a b h1 h2
  have e1 := h b (by omega) h2
  have e2 := hs (b - 1) b (by omega) (by omega)
  rcases Nat.lt_or_ge a (b - 1) with h3 | h3
  · have := hs a (b - 1) h3 (by omega); omega
  · have : a = b - 1 := by omega
    rw [this]; omega
structure CmpI (xs ys : List Int) (r w : Nat) : Prop where
  len : ys.length = xs.length
  r0 : 0 < r
  wr : w < r
  rl : r ≤ xs.length
  sf : ∀ a, r - 1 ≤ a → at' ys a = at' xs a
  pw : (ys.take w).Pairwise (· < ·)
  mem : ∀ v, v ∈ ys.take w ↔ v ∈ xs.take r
theorem cmp_start {xs : List Int} {n k : Nat} (hn : xs.length = n) (hs : SortedTo xs n) (h : ∀ a, 0 < a → a < k → at' xs a ≠ at' xs (a - 1)) (hk : k < n) (h0 : 0 < k) (he : at' xs k = at' xs (k - 1)) : CmpI xs xs (k + 1) k := by
  refine ⟨rfl, by omega, by omega, by omega, fun _ _ => rfl, pw_take (strict_of hs (by omega) h), fun v => ?_⟩
  rw [mem_take_at, mem_take_at]
  constructor
  · rintro ⟨a, h1, h2, e⟩; exact ⟨a, by omega, h2, e⟩
  · rintro ⟨a, h1, h2, e⟩
    by_cases h3 : a = k
    · exact ⟨k - 1, by omega, by omega, by rw [← he, ← h3]; exact e⟩
    · exact ⟨a, by omega, h2, e⟩
theorem cmp_eq {xs ys : List Int} {n r w : Nat} (hn : xs.length = n) (h : CmpI xs ys r w) (hr : r < n) (he : at' xs r = at' xs (r - 1)) : CmpI xs ys (r + 1) w := by
  have h0 := h.r0
  refine ⟨h.len, by omega, by have := h.wr; omega, by omega, fun a ha => h.sf a (by omega), h.pw, fun v => (h.mem v).trans ?_⟩
  rw [mem_take_at, mem_take_at]
  constructor
  · rintro ⟨a, h1, h2, e⟩; exact ⟨a, by omega, h2, e⟩
  · rintro ⟨a, h1, h2, e⟩
    by_cases h3 : a = r
    · exact ⟨r - 1, by omega, by omega, by rw [← he, ← h3]; exact e⟩
    · exact ⟨a, by omega, h2, e⟩
theorem cmp_ne {xs ys : List Int} {n r w : Nat} (hn : xs.length = n) (hs : SortedTo xs n) (h : CmpI xs ys r w) (hr : r < n) (he : at' xs r ≠ at' xs (r - 1)) : CmpI xs (ys.set w (at' xs r)) (r + 1) (w + 1) := by
  have h0 := h.r0
  have hw := h.wr
  have hl := h.len
  have et : (ys.set w (at' xs r)).take (w + 1) = ys.take w ++ [at' xs r] := by
    rw [List.take_add_one, List.getElem?_set_self (by omega), List.take_set_of_le (Nat.le_refl _)]; rfl
  refine ⟨by rw [List.length_set, hl], by omega, by omega, by omega, fun a ha => ?_, ?_, fun v => ?_⟩
  · rw [at_set (by omega), if_neg (by omega)]; exact h.sf a (by omega)
  · rw [et, List.pairwise_append]
    refine ⟨h.pw, by simp, fun v hv u hu => ?_⟩
    rw [List.mem_singleton] at hu
    subst hu
    obtain ⟨a, h1, h2, e⟩ := mem_take_at.1 ((h.mem v).1 hv)
    have e2 := hs (r - 1) r (by omega) hr
    rcases Nat.lt_or_ge a (r - 1) with h3 | h3
    · have := hs a (r - 1) h3 (by omega); omega
    · have : a = r - 1 := by omega
      subst this; omega
  · rw [et, List.mem_append, h.mem, List.mem_singleton, mem_take_at, mem_take_at]
    constructor
    · rintro (⟨a, h1, h2, e⟩ | e)
      · exact ⟨a, by omega, h2, e⟩
      · exact ⟨r, by omega, by omega, e.symm⟩
    · rintro ⟨a, h1, h2, e⟩
      by_cases h3 : a = r
      · right; rw [← e, h3]
      · left; exact ⟨a, by omega, h2, e⟩
end Go.Ab
namespace Go.Ab
def beforeB (i : Inst) (s : BS) : BS := unionB (withoutB s (dfn i)) (ofB (usesI i))
def atB (is : List Inst) (s : BS) (k : Nat) : BS := (is.drop k).foldr beforeB s
theorem atB_len (is : List Inst) (s : BS) : atB is s is.length = s := by simp [atB]
theorem atB_step {is : List Inst} {s : BS} {k : Nat} (h : k < is.length) : atB is s k = beforeB (at' is k) (atB is s (k + 1)) := by
  unfold atB
  rw [List.drop_eq_getElem_cons h, List.foldr_cons]
  simp [at', h]
def succB (ss : List Int) (ins : List BS) : BS := ss.foldl (fun s j => unionB s (at' ins j.toNat)) emptyB
def neededB (t : Term) (ins : List BS) : BS := unionB (withoutB (succB (succT t) ins) (dfnT t)) (ofB (usesT t))
theorem succB_take {ss : List Int} {ins : List BS} {k : Nat} (h : k < ss.length) : succB (ss.take (k + 1)) ins = unionB (succB (ss.take k) ins) (at' ins (at' ss k).toNat) := by
  rw [succB, take_succ h, List.foldl_append]; rfl
section
variable {P : Program} {X : Cx} {E : TEnv} {Th : List Root} {α : Type} [Enc α]
theorem opt_assign_nl {t : Bool} {x : Operand} (hx : x = .const (.slice none 0 0)) (o1 : okOpd P x = true) : OpT P X E Th (.assign x) (lst t ([] : List α)) Th .no := by
  subst hx
  exact opt_quiet (fun _ => .inl (by simp)) (by simp [Op.operands, o1]) fun T G p hr => ⟨.slice none 0 0, rfl, .fnil⟩
end
end Go.Ab
namespace Go.Ab
inductive Rch (c : Code) : Nat → Prop
  | start : Rch c 0
  | step {b : Nat} {s : Int} : Rch c b → s ∈ succT (at' c.b b).t → Rch c s.toNat
theorem Rch.lt {c : Code} (hf : Fit c) {b : Nat} (h : Rch c b) : b < c.b.length := by
  induction h with
  | start => exact hf.nb.1
  | step h1 h2 ih =>
    have := hf.to _ (at_mem0 ih) _ h2
    omega
where at_mem0 {c : Code} {b : Nat} (h : b < c.b.length) : at' c.b b ∈ c.b := by simp [at', h]
theorem at_cons0 {a : Bool} {l : List Bool} : at' (a :: l) 0 = a := rfl
theorem at_consS {a : Bool} {l : List Bool} {k : Nat} : at' (a :: l) (k + 1) = at' l k := rfl
theorem le_cnt : ∀ {o o' : List Bool}, o.length = o'.length → (∀ x, at' o x = true → at' o' x = true) → (o = o' ∨ o.count true < o'.count true) ∧ o.count true ≤ o'.count true
  | [], [], _, _ => ⟨.inl rfl, Nat.le_refl _⟩
  | [], _ :: _, h, _ => by simp at h
  | _ :: _, [], h, _ => by simp at h
  | a :: o, a' :: o', h, hx => by
    obtain ⟨h1, h2⟩ := le_cnt (o := o) (o' := o') (by simpa using h) fun x hx' => by
      have := hx (x + 1) (by rw [at_consS]; exact hx')
      rwa [at_consS] at this
    have h0 := hx 0
    rw [at_cons0, at_cons0] at h0
    cases a <;> cases a' <;> simp at h0 ⊢
    · exact ⟨h1, h2⟩
    · omega
    · exact ⟨h1, h2⟩
theorem cnt_le_len (o : List Bool) : o.count true ≤ o.length := List.count_le_length
theorem at_set_t {o : List Bool} {k x : Nat} : at' (o.set k true) x = true ↔ (x = k ∧ k < o.length) ∨ at' o x = true := by
  rcases Nat.lt_or_ge k o.length with h | h
  · rw [at_set h]
    split
    · rename_i e; simp [e, h]
    · rename_i e; simp [e]
  · rw [List.set_eq_of_length_le h]
    constructor
    · exact .inr
    · rintro (⟨_, h2⟩ | h2)
      · omega
      · exact h2
theorem reachS_fold {b : Nat} : ∀ {l : List Int} {o : List Bool} {x : Nat}, at' o x = true → at' (l.foldl (fun o s => if at' o b then o.set s.toNat true else o) o) x = true
  | [], _, _, h => h
  | s :: l, o, x, h => by
    rw [List.foldl_cons]
    apply reachS_fold
    split
    · exact at_set_t.2 (.inr h)
    · exact h
theorem reachS_mono {c : Code} {o : List Bool} {b x : Nat} (h : at' o x = true) : at' (reachS c o b) x = true := reachS_fold h
theorem reachS_add {b : Nat} : ∀ {l : List Int} {o : List Bool} {s : Int}, at' o b = true → s ∈ l → s.toNat < o.length → at' (l.foldl (fun o s => if at' o b then o.set s.toNat true else o) o) s.toNat = true
  | r :: l, o, s, h, hs, hlt => by
    rw [List.foldl_cons, if_pos h]
    rcases List.mem_cons.1 hs with rfl | hs
    · exact reachS_fold (at_set_t.2 (.inl ⟨rfl, hlt⟩))
    · exact reachS_add (at_set_t.2 (.inr h)) hs (by simpa using hlt)
theorem reachF_mono {c : Code} : ∀ {l : List Nat} {o : List Bool} {x : Nat}, at' o x = true → at' (l.foldl (reachS c) o) x = true
  | [], _, _, h => h
  | b :: l, o, x, h => by rw [List.foldl_cons]; exact reachF_mono (reachS_mono h)
theorem reachF_add {c : Code} : ∀ {l : List Nat} {o : List Bool} {b : Nat} {s : Int}, b ∈ l → at' o b = true → s ∈ succT (at' c.b b).t → s.toNat < o.length → at' (l.foldl (reachS c) o) s.toNat = true
  | d :: l, o, b, s, hb, h, hs, hlt => by
    rw [List.foldl_cons]
    rcases List.mem_cons.1 hb with rfl | hb
    · exact reachF_mono (reachS_add h hs hlt)
    · exact reachF_add hb (reachS_mono h) hs (by rw [reachS_len]; exact hlt)
theorem reachS_sound {c : Code} {b : Nat} : ∀ {l : List Int} {o : List Bool}, (∀ s ∈ l, s ∈ succT (at' c.b b).t) → (∀ x, at' o x = true → Rch c x) → ∀ x, at' (l.foldl (fun o s => if at' o b then o.set s.toNat true else o) o) x = true → Rch c x
  | [], _, _, h => h
  | s :: l, o, hl, h => by
    rw [List.foldl_cons]
    refine reachS_sound (fun s hs => hl s (by simp [hs])) fun x hx => ?_
    split at hx
    · rename_i hb
      rcases at_set_t.1 hx with ⟨rfl, _⟩ | hx
      · exact .step (h b hb) (hl s (by simp))
      · exact h x hx
    · exact h x hx
theorem reachF_sound {c : Code} : ∀ {l : List Nat} {o : List Bool}, (∀ x, at' o x = true → Rch c x) → ∀ x, at' (l.foldl (reachS c) o) x = true → Rch c x
  | [], _, h => h
  | b :: l, o, h => by rw [List.foldl_cons]; exact reachF_sound (reachS_sound (fun s hs => hs) h)
def reachI (c : Code) (k : Nat) : List Bool := (List.range k).foldl (fun o _ => reachP c o) ((List.replicate c.b.length false).set 0 true)
theorem reachI_succ (c : Code) (k : Nat) : reachI c (k + 1) = reachP c (reachI c k) := by rw [reachI, List.range_succ, List.foldl_append]; rfl
theorem reachI_len (c : Code) (k : Nat) : (reachI c k).length = c.b.length := by
  unfold reachI
  rw [foldl_len (fun o _ => reachP_len c o)]; simp
theorem reachI_sound {c : Code} : ∀ k x, at' (reachI c k) x = true → Rch c x
  | 0, x, h => by
    rcases at_set_t.1 (show at' ((List.replicate c.b.length false).set 0 true) x = true from h) with ⟨rfl, _⟩ | h
    · exact .start
    · exfalso
      simp only [at', List.getD_eq_getElem?_getD, List.getElem?_replicate] at h
      split at h <;> simp at h
  | k + 1, x, h => by rw [reachI_succ] at h; exact reachF_sound (reachI_sound k) x h
theorem reachI_zero {c : Code} (hf : Fit c) : ∀ k, at' (reachI c k) 0 = true
  | 0 => at_set_t.2 (.inl ⟨rfl, by simpa using hf.nb.1⟩)
  | k + 1 => by rw [reachI_succ]; exact reachF_mono (reachI_zero hf k)
theorem reachI_fix {c : Code} (hf : Fit c) : ∀ k, reachP c (reachI c k) = reachI c k ∨ k + 1 ≤ (reachI c k).count true
  | 0 => by
    right
    have h := reachI_zero hf 0
    have hl := reachI_len c 0
    have := hf.nb.1
    generalize reachI c 0 = o at *
    cases o with
    | nil => simp at hl; omega
    | cons a o => rw [at_cons0] at h; subst h; simp
  | k + 1 => by
    rcases reachI_fix hf k with h | h
    · left; rw [reachI_succ, h, h]
    · have hle := le_cnt (o := reachI c k) (o' := reachP c (reachI c k)) (by rw [reachP_len]) fun x hx => reachF_mono hx
      rcases hle.1 with h2 | h2
      · left; rw [reachI_succ, ← h2, ← h2]
      · right; rw [reachI_succ]; omega
theorem reach_closed {c : Code} (hf : Fit c) : ∀ b, at' (reachL c) b = true → ∀ s ∈ succT (at' c.b b).t, at' (reachL c) s.toNat = true := by
  have e : reachP c (reachL c) = reachL c := by
    rcases reachI_fix hf c.b.length with h | h
    · exact h
    · have := cnt_le_len (reachI c c.b.length)
      rw [reachI_len] at this; omega
  intro b hb s hs
  have hlt := Rch.lt hf (reachI_sound c.b.length b hb)
  have hr := Rch.lt hf (Rch.step (reachI_sound c.b.length b hb) hs)
  rw [← e]
  exact reachF_add (List.mem_range.2 hlt) hb hs (by rw [reachL_len]; exact hr)
theorem reach_iff {c : Code} (hf : Fit c) {b : Nat} : at' (reachL c) b = true ↔ Rch c b := by
  refine ⟨reachI_sound c.b.length b, fun h => ?_⟩
  induction h with
  | start => exact reachI_zero hf c.b.length
  | step _ h2 ih => exact reach_closed hf _ ih _ h2
theorem cnt_set : ∀ {o : List Bool} {k : Nat}, k < o.length → at' o k = false → (o.set k true).count false + 1 = o.count false
  | a :: o, 0, _, h => by rw [at_cons0] at h; subst h; simp
  | a :: o, k + 1, hk, h => by
    rw [at_consS] at h
    have := cnt_set (o := o) (k := k) (by simpa using hk) h
    rw [List.set_cons_succ, List.count_cons, List.count_cons]
    omega
structure Walk (c : Code) (bs : List Bool) (ws : List Int) (m : Nat) : Prop where
  len : bs.length = c.b.length
  sd : ∀ x, at' bs x = true → Rch c x
  z : at' bs 0 = true
  cl : ∀ b, at' bs b = true → (b : Int) ∈ ws ∨ ∀ s ∈ succT (at' c.b b).t, at' bs s.toNat = true
  wk : ∀ w ∈ ws, 0 ≤ w ∧ w < c.b.length ∧ at' bs w.toNat = true
  ms : 2 * bs.count false + ws.length ≤ m
theorem Walk.done {c : Code} (hf : Fit c) {bs : List Bool} {m : Nat} (h : Walk c bs [] m) : bs = reachL c := by
  refine ext_at (by rw [h.len, reachL_len]) fun b hb => ?_
  clear hb
  have key : at' bs b = true ↔ at' (reachL c) b = true := by
    rw [reach_iff hf]
    refine ⟨h.sd b, fun hr => ?_⟩
    induction hr with
    | start => exact h.z
    | step _ h2 ih => exact (h.cl _ ih).resolve_left (by simp) _ h2
  cases h1 : at' bs b <;> cases h2 : at' (reachL c) b <;> simp_all
structure WalkI (c : Code) (bs : List Bool) (ws : List Int) (m b i : Nat) : Prop where
  len : bs.length = c.b.length
  sd : ∀ x, at' bs x = true → Rch c x
  z : at' bs 0 = true
  hb : at' bs b = true
  cl : ∀ d, d ≠ b → at' bs d = true → (d : Int) ∈ ws ∨ ∀ s ∈ succT (at' c.b d).t, at' bs s.toNat = true
  dn : ∀ s ∈ (succT (at' c.b b).t).take i, at' bs s.toNat = true
  wk : ∀ w ∈ ws, 0 ≤ w ∧ w < c.b.length ∧ at' bs w.toNat = true
  ms : 2 * bs.count false + ws.length ≤ m
theorem Walk.start {c : Code} (hf : Fit c) : Walk c ((List.replicate c.b.length false).set 0 true) [0] (2 * c.b.length + 1) := by
  have hn := hf.nb.1
  have hat : ∀ x, at' ((List.replicate c.b.length false).set 0 true) x = true → x = 0 := fun x h => by
    rcases at_set_t.1 h with ⟨rfl, _⟩ | h
    · rfl
    · exfalso
      simp only [at', List.getD_eq_getElem?_getD, List.getElem?_replicate] at h
      split at h <;> simp at h
  refine ⟨by simp, fun x h => by rw [hat x h]; exact .start, at_set_t.2 (.inl ⟨rfl, by simpa using hn⟩), fun b h => .inl (by rw [hat b h]; simp), fun w hw => ?_, ?_⟩
  · rw [List.mem_singleton] at hw; subst hw
    exact ⟨by decide, by omega, at_set_t.2 (.inl ⟨rfl, by simpa using hn⟩)⟩
  · have : ((List.replicate c.b.length false).set 0 true).count false ≤ c.b.length := by
      have := List.count_le_length (a := false) (l := (List.replicate c.b.length false).set 0 true)
      simpa using this
    simp; omega
theorem Walk.pop {c : Code} {bs : List Bool} {ws : List Int} {m : Nat} (h : Walk c bs ws m) (hw : 0 < ws.length) : WalkI c bs (ws.take (ws.length - 1)) (m - 1) (at' ws (ws.length - 1)).toNat 0 := by
  have hm := h.wk _ (at_mem'' (ws := ws) (k := ws.length - 1) (by omega))
  refine ⟨h.len, h.sd, h.z, hm.2.2, fun d hd h1 => ?_, by simp, fun w hw => h.wk w (List.mem_of_mem_take hw), ?_⟩
  · rcases h.cl d h1 with h2 | h2
    · left
      have e : ws = ws.take (ws.length - 1) ++ [at' ws (ws.length - 1)] := by
        have := take_succ (xs := ws) (k := ws.length - 1) (by omega)
        rw [show ws.length - 1 + 1 = ws.length by omega, List.take_length] at this
        exact this
      rw [e] at h2
      rcases List.mem_append.1 h2 with h2 | h2
      · exact h2
      · rw [List.mem_singleton] at h2
        exfalso; apply hd; rw [← h2]; simp
    · exact .inr h2
  · have := h.ms
    rw [List.length_take]; omega
where at_mem'' {ws : List Int} {k : Nat} (h : k < ws.length) : at' ws k ∈ ws := by simp [at', h]
theorem WalkI.add {c : Code} (hf : Fit c) {bs : List Bool} {ws : List Int} {m b i : Nat} (h : WalkI c bs ws m b i) (hi : i < (succT (at' c.b b).t).length) (hn : at' bs (at' (succT (at' c.b b).t) i).toNat = false) : WalkI c (bs.set (at' (succT (at' c.b b).t) i).toNat true) (ws ++ [at' (succT (at' c.b b).t) i]) m b (i + 1) := by
  have hmem : at' (succT (at' c.b b).t) i ∈ succT (at' c.b b).t := mem_at.2 ⟨i, hi, rfl⟩
  have hr := Rch.step (h.sd b h.hb) hmem
  have hlt := Rch.lt hf hr
  have hto := hf.to (at' c.b b) (by have := Rch.lt hf (h.sd b h.hb); simp [at', this]) _ hmem
  refine ⟨by rw [List.length_set, h.len], fun x hx => ?_, at_set_t.2 (.inr h.z), at_set_t.2 (.inr h.hb), fun d hd h1 => ?_, fun s hs => ?_, fun w hw => ?_, ?_⟩
  · rcases at_set_t.1 hx with ⟨rfl, _⟩ | hx
    · exact hr
    · exact h.sd x hx
  · rcases at_set_t.1 h1 with ⟨rfl, _⟩ | h1
    · left; rw [Int.toNat_of_nonneg hto.1]; simp
    · rcases h.cl d hd h1 with h2 | h2
      · left; simp [h2]
      · right; exact fun s hs => at_set_t.2 (.inr (h2 s hs))
  · rw [take_succ hi, List.mem_append, List.mem_singleton] at hs
    rcases hs with hs | rfl
    · exact at_set_t.2 (.inr (h.dn s hs))
    · exact at_set_t.2 (.inl ⟨rfl, by rw [h.len]; exact hlt⟩)
  · rw [List.mem_append, List.mem_singleton] at hw
    rcases hw with hw | rfl
    · have := h.wk w hw; exact ⟨this.1, this.2.1, at_set_t.2 (.inr this.2.2)⟩
    · exact ⟨hto.1, hto.2, at_set_t.2 (.inl ⟨rfl, by rw [h.len]; exact hlt⟩)⟩
  · have h1 := cnt_set (o := bs) (k := (at' (succT (at' c.b b).t) i).toNat) (by rw [h.len]; exact hlt) hn
    have h2 := h.ms
    rw [List.length_append]; simp; omega
theorem WalkI.skip {c : Code} {bs : List Bool} {ws : List Int} {m b i : Nat} (h : WalkI c bs ws m b i) (hi : i < (succT (at' c.b b).t).length) (hn : at' bs (at' (succT (at' c.b b).t) i).toNat = true) : WalkI c bs ws m b (i + 1) := by
  refine ⟨h.len, h.sd, h.z, h.hb, h.cl, fun s hs => ?_, h.wk, h.ms⟩
  rw [take_succ hi, List.mem_append, List.mem_singleton] at hs
  rcases hs with hs | rfl
  · exact h.dn s hs
  · exact hn
theorem WalkI.out {c : Code} {bs : List Bool} {ws : List Int} {m b i : Nat} (h : WalkI c bs ws m b i) (hi : (succT (at' c.b b).t).length ≤ i) : Walk c bs ws m := by
  refine ⟨h.len, h.sd, h.z, fun d h1 => ?_, h.wk, h.ms⟩
  by_cases hd : d = b
  · right; subst hd
    intro s hs
    exact h.dn s (by rw [List.take_of_length_le hi]; exact hs)
  · exact h.cl d hd h1
end Go.Ab

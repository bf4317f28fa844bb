import Derived.Test.YtjbnedjlcpdekaaV3
import Derived.Test.YtjbnedjlcpdekaaProg

namespace Go.Proofs.Ytjbnedjlcpdekaa.N
open Go.VL Go.Proofs

abbrev TerrorAddressString := ((List Int) × (Int × Unit))
abbrev TMember := (Int × (Int × (Bool × Unit)))
abbrev TboundsError := (Int × (Int × (Bool × (Int × Unit))))
abbrev TView := (Int × ((List TMember) × Unit))
abbrev TRaw := (Int × (Int × (Int × (Int × (Int × ((List Int) × Unit))))))
abbrev TVerb := (Int × (Int × (Int × (Int × (Int × (Int × ((List Int) × (Int × (Int × Unit)))))))))
abbrev TType := (Int × (Int × (Int × (Int × (Int × (Int × (Int × ((Option Nat) × ((Option Int) × (Int × (Int × Unit)))))))))))
abbrev TTypeAssertionError := ((Option TType) × ((Option TType) × ((Option TType) × ((List Int) × Unit))))
def tys : List (Nat × Ty) := [(3, (.int .i64)), (4, .bool), (22, (.list (.int .i64))), (24, (.pair (.int .i64) (.pair (.int .i64) (.pair (.int .i64) (.pair (.int .i64) (.pair (.int .i64) (.pair (.list (.int .i64)) .unit))))))), (25, (.int .u64)), (26, (.list (.pair (.int .i64) (.pair (.int .i64) (.pair .bool .unit))))), (28, (.pair (.int .i64) (.pair (.list (.pair (.int .i64) (.pair (.int .i64) (.pair .bool .unit)))) .unit))), (31, (.int .i64)), (35, (.int .u64)), (45, (.pair (.int .i64) (.pair (.int .i64) (.pair .bool .unit)))), (51, (.list (.int .u64))), (53, (.pair (.int .i64) (.pair (.int .i64) (.pair (.int .i64) (.pair (.int .i64) (.pair (.int .u64) (.pair (.int .u64) (.pair (.list (.int .u64)) (.pair (.int .u64) (.pair (.int .i64) .unit)))))))))), (61, (.ptr (.pair (.int .i64) (.pair (.int .i64) (.pair .bool .unit))))), (64, .fn)]
def eqT : List Nat := [3, 4, 25, 31, 45]
def cx (l : List (Nat × TE)) : Ctx := { ty := lookT tys, eqs := memN eqT, tab := lookT l }
theorem tysOk (l : List (Nat × TE)) : TysOk Try.prog (cx l) := tysOk_of (l := tys) rfl (by kernel_rfl)
theorem eqsOk (l : List (Nat × TE)) : EqsOk Try.prog (cx l) := eqsOk_of (l := tys) rfl (by kernel_rfl)
theorem mixed : Try.prog.follows .mixedOrders = true := by kernel_rfl
end Go.Proofs.Ytjbnedjlcpdekaa.N

-- Lines by a program of this session, for this claim.
import Derived.Test.YtmkjgiejnlmncaaQTableBytesx0
import Derived.Test.YtmkjgiejnlmncaaQTableBytesx1
import Derived.Test.YtmkjgiejnlmncaaQTableBytesx2
namespace Go.Proofs.Ytmkjgiejnlmncaa.QTableBytes
open Go.RowKit Go.Proofs.YtmkjgiejnlmncaaW.PrintWords Go.Proofs.YtmkjgiejnlmncaaW.PrintLast Go.Proofs.YtmkjgiejnlmncaaW.PrintMore
attribute [local go_sem] max2_int min2_int max_two min_two max_three min_three max_four min_four   -- for this text's walks alone
set_option linter.unusedVariables false
set_option linter.unusedSimpArgs false

theorem eqA41 (d : Nat) (w : World) (x0 y0 : Int) (x1 y1 : Int) :
    (Op.equalIn (d + 2) 41 (.agg #[.int .u16 x0, .int .u16 x1]) (.agg #[.int .u16 y0, .int .u16 y1])).run Try.prog w = .ok (x0 == y0 && (x1 == y1)) w := by
  refine eqA_of Try.underlying41 (by kernel_rfl) ?_
  refine eqf_cons (by rfl) (by go_simp; rfl) (by go_simp; rfl) (by go_simp) ?_
  exact eqf_last (by rfl) (by go_simp; rfl) (by go_simp; rfl) (by go_simp)
theorem eqA43 (d : Nat) (w : World) (x0 y0 : Int) (x1 y1 : Int) (x2 y2 : Bool) (x3 y3 : Int) (x4 y4 : Int) (x5 y5 : Int) (x6 y6 : Int) (x7 y7 : Int) (x8 y8 : Int) (x9 y9 : Int) :
    (Op.equalIn (d + 4) 43 (.agg #[.int .u32 x0, .int .u8 x1, .bool x2, .int .u32 x3, .int .u8 x4, .int .i64 x5, .int .u16 x6, .int .u16 x7, .int .u16 x8, .int .u16 x9]) (.agg #[.int .u32 y0, .int .u8 y1, .bool y2, .int .u32 y3, .int .u8 y4, .int .i64 y5, .int .u16 y6, .int .u16 y7, .int .u16 y8, .int .u16 y9])).run Try.prog w = .ok ((x0 == y0 && (x1 == y1)) && (x2 == y2 && (((x3 == y3 && (x4 == y4)) && (x5 == y5 && (x6 == y6 && (x7 == y7)))) && ((x8 == y8 && (x9 == y9)))))) w := by
  refine eqA_of Try.underlying43 (by kernel_rfl) ?_
  refine eqf_cons (by rfl) (by go_simp) (by go_simp) (eqA33 (d + 1) w _ _ _ _) ?_
  refine eqf_cons (by rfl) (by go_simp; rfl) (by go_simp; rfl) (by go_simp) ?_
  refine eqf_cons (by rfl) (by go_simp) (by go_simp) (eqA36 (d + 0) w _ _ _ _ _ _ _ _ _ _) ?_
  exact eqf_last (by rfl) (by go_simp) (by go_simp) (eqA41 (d + 1) w _ _ _ _)
end Go.Proofs.Ytmkjgiejnlmncaa.QTableBytes

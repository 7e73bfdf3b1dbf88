-- Lines by a program of this session, for this claim.
import Derived.Test.YtllcighpfikpkaaQChangeApartx0
import Derived.Test.YtllcighpfikpkaaQChangeApartx2
namespace Go.Proofs.Ytllcighpfikpkaa.QChangeApart
open Go.RowKit Go.Proofs.YtllcighpfikpkaaW.PrintWords Go.Proofs.YtllcighpfikpkaaW.PrintLast Go.Proofs.YtllcighpfikpkaaW.PrintMore
attribute [local go_sem] max2_int min2_int max_two min_two max_three min_three max_four min_four   -- for this text's walks alone
set_option linter.unusedVariables false
set_option linter.unusedSimpArgs false

theorem eqA31 (d : Nat) (w : World) (x0 y0 : Int) (x1 y1 : Int) (x2 y2 : Bool) (x3 y3 : Int) (x4 y4 : Int) (x5 y5 : Int) (x6 y6 : Int) (x7 y7 : Int) :
    (Op.equalIn (d + 4) 31 (.agg #[.int .u64 x0, .int .u64 x1, .bool x2, .int .u32 x3, .int .u8 x4, .int .i64 x5, .int .u16 x6, .int .u16 x7]) (.agg #[.int .u64 y0, .int .u64 y1, .bool y2, .int .u32 y3, .int .u8 y4, .int .i64 y5, .int .u16 y6, .int .u16 y7])).run Try.prog w = .ok (x0 == y0 && (x1 == y1 && (x2 == y2 && (((x3 == y3 && (x4 == y4)) && (x5 == y5 && (x6 == y6 && (x7 == y7)))))))) w := by
  refine eqA_of Try.underlying31 (by kernel_rfl) ?_
  refine eqf_cons (by rfl) (by go_simp; rfl) (by go_simp; rfl) (by go_simp) ?_
  refine eqf_cons (by rfl) (by go_simp; rfl) (by go_simp; rfl) (by go_simp) ?_
  refine eqf_cons (by rfl) (by go_simp; rfl) (by go_simp; rfl) (by go_simp) ?_
  exact eqf_last (by rfl) (by go_simp) (by go_simp) (eqA29 (d + 0) w _ _ _ _ _ _ _ _ _ _)
end Go.Proofs.Ytllcighpfikpkaa.QChangeApart

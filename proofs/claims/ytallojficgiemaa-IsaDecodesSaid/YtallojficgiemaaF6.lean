/- Functions of the program as plain Lean functions, and that the calls do what they say: written by wip/tools/walk.py. -/
import Derived.Test.YtallojficgiemaaTy
import Derived.Test.YtallojficgiemaaF0
import Derived.Test.YtallojficgiemaaF1
import Derived.Test.YtallojficgiemaaF2
import Derived.Test.YtallojficgiemaaF3
import Derived.Test.YtallojficgiemaaF4
import Derived.Test.YtallojficgiemaaF5
set_option linter.unusedVariables false
set_option linter.unusedSimpArgs false
set_option linter.unusedSectionVars false
namespace Go.Proofs.Ytallojficgiemaa.W
open Go Go.RowKit Go.Proofs.Ytallojficgiemaa.B
attribute [local irreducible] Go.wpList Go.Code.wp Go.Region.wanted Go.yielded
/-! ### selvage/selvageref15.sort: function 15 -/
def selvageref15_sort.m (a0 : Int) : Option (Int) := if ((decide (a0 < 1)) || (decide (a0 > 23))) = true then (some 0) else (if 0 ≤ a0 ∧ a0 < 24 then (some (gi (intE .i64) ([0, 1, 1, 2, 2, 3, 4, 4, 4, 4, 5, 5, 4, 4, 4, 4, 6, 7, 8, 9, 10, 10, 10, 10] : List Int) a0)) else none)
set_option maxHeartbeats 4000000 in
set_option maxRecDepth 100000 in
theorem selvageref15_sort.calls (a0 : Int) (r : Int) (w : World) (H : selvageref15_sort.m a0 = some r) :
    Ret Try.prog 15 [.int .i64 a0] w fun v w' => v = .int .i64 r ∧ Below w.heap.size w w' := by
  unfold selvageref15_sort.m at H
  have hp0 := Hp.start w
  refine enter (L := [(0, .int .i64 a0)]) Try.func15 rfl Try.ntmps15 rfl rfl ?_
  refine k_seq ?_
  refine k_region ?_
  refine sv (v := .int .i64 0) rfl rfl rfl (e_assign rfl) ?_
  refine k_nil ?_
  refine k_seq ?_
  refine k_seq ?_
  refine k_region ?_
  refine sv (v := .int .i64 a0) rfl rfl rfl (e_move (tm rfl rfl)) ?_
  refine sv (v := .bool (decide (a0 < 1))) rfl rfl rfl (e_bin (tm rfl rfl) rfl (r_lss rfl)) ?_
  refine sv (v := .bool (decide (a0 < 1))) rfl rfl rfl (e_move (tm rfl rfl)) ?_
  refine s_gp (v := .int .i64 a0) rfl rfl rfl (beq_f _) (fun g_ => e_move (tm rfl rfl)) rfl ?_
  refine s_gp (v := .bool (decide (a0 > 23))) rfl rfl rfl (beq_f _) (fun g_ => e_bin (tmg (!(decide (a0 < 1))) (.int .i64 a0) rfl rfl g_) rfl (r_gtr rfl)) rfl ?_
  refine sv (v := .bool ((decide (a0 < 1)) || (decide (a0 > 23)))) rfl rfl rfl (e_pick (v1 := .bool true) (v2 := .bool (decide (a0 > 23))) (tm rfl rfl) (fun _ => rfl) (fun h_ => tmg (!(decide (a0 < 1))) (.bool (decide (a0 > 23))) rfl rfl (nt h_)) (pk_or (decide (a0 < 1)))) ?_
  refine k_nil ?_
  refine k_if (tm rfl rfl) (fun h1 => ?_) (fun h1 => ?_)
  · have H := ift h1 H
    refine k_seq ?_
    refine k_region ?_
    refine sv (v := .int .i64 0) rfl rfl rfl (e_assign rfl) ?_
    refine k_nil ?_
    refine k_ret ?_
    obtain rfl := Option.some.inj H
    exact k_end rfl (.tmp rfl rfl .nil) rfl ⟨rfl, hp0.below⟩
  have H := iff_ h1 H
  refine k_skip ?_
  refine k_seq ?_
  refine k_region ?_
  refine sv (v := .agg #[.int .i64 0, .int .i64 1, .int .i64 1, .int .i64 2, .int .i64 2, .int .i64 3, .int .i64 4, .int .i64 4, .int .i64 4, .int .i64 4, .int .i64 5, .int .i64 5, .int .i64 4, .int .i64 4, .int .i64 4, .int .i64 4, .int .i64 6, .int .i64 7, .int .i64 8, .int .i64 9, .int .i64 10, .int .i64 10, .int .i64 10, .int .i64 10]) rfl rfl rfl (e_build (vs := [(0, .int .i64 0), (1, .int .i64 1), (2, .int .i64 1), (3, .int .i64 2), (4, .int .i64 2), (5, .int .i64 3), (6, .int .i64 4), (7, .int .i64 4), (8, .int .i64 4), (9, .int .i64 4), (10, .int .i64 5), (11, .int .i64 5), (12, .int .i64 4), (13, .int .i64 4), (14, .int .i64 4), (15, .int .i64 4), (16, .int .i64 6), (17, .int .i64 7), (18, .int .i64 8), (19, .int .i64 9), (20, .int .i64 10), (21, .int .i64 10), (22, .int .i64 10), (23, .int .i64 10)]) (.cons rfl (.cons rfl (.cons rfl (.cons rfl (.cons rfl (.cons rfl (.cons rfl (.cons rfl (.cons rfl (.cons rfl (.cons rfl (.cons rfl (.cons rfl (.cons rfl (.cons rfl (.cons rfl (.cons rfl (.cons rfl (.cons rfl (.cons rfl (.cons rfl (.cons rfl (.cons rfl (.cons rfl .nil)))))))))))))))))))))))) (by kernel_rfl)) ?_
  refine sv (v := .int .i64 a0) rfl rfl rfl (e_move (tm rfl rfl)) ?_
  obtain ⟨g2, H⟩ := grd H
  refine sv (v := .int .i64 (gi (intE .i64) ([0, 1, 1, 2, 2, 3, 4, 4, 4, 4, 5, 5, 4, 4, 4, 4, 6, 7, 8, 9, 10, 10, 10, 10] : List Int) a0)) rfl rfl rfl (e_index (E := (intE .i64)) (xs := ([0, 1, 1, 2, 2, 3, 4, 4, 4, 4, 5, 5, 4, 4, 4, 4, 6, 7, 8, 9, 10, 10, 10, 10] : List Int)) (tm rfl rfl) (tm rfl rfl) Try.runUnderlying63 Try.isAgg3 Try.sizeOf3 rfl rfl g2 rfl) ?_
  refine sv (v := .int .i64 (gi (intE .i64) ([0, 1, 1, 2, 2, 3, 4, 4, 4, 4, 5, 5, 4, 4, 4, 4, 6, 7, 8, 9, 10, 10, 10, 10] : List Int) a0)) rfl rfl rfl (e_assign (tm rfl rfl)) ?_
  refine k_nil ?_
  refine k_ret ?_
  obtain rfl := Option.some.inj H
  exact k_end rfl (.tmp rfl rfl .nil) rfl ⟨rfl, hp0.below⟩

end Go.Proofs.Ytallojficgiemaa.W

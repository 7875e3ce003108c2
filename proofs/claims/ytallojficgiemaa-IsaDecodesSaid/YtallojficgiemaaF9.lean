/- Functions of the program as plain Lean functions, and that the calls do what they say: written by wip/tools/walk.py. -/
import Derived.Test.YtallojficgiemaaTy
import Derived.Test.YtallojficgiemaaF0
import Derived.Test.YtallojficgiemaaF1
import Derived.Test.YtallojficgiemaaF2
import Derived.Test.YtallojficgiemaaF3
import Derived.Test.YtallojficgiemaaF4
import Derived.Test.YtallojficgiemaaF5
import Derived.Test.YtallojficgiemaaF6
import Derived.Test.YtallojficgiemaaF7
import Derived.Test.YtallojficgiemaaF8
set_option linter.unusedVariables false
set_option linter.unusedSimpArgs false
set_option linter.unusedSectionVars false
namespace Go.Proofs.Ytallojficgiemaa.W
open Go Go.RowKit Go.Proofs.Ytallojficgiemaa.B
attribute [local irreducible] Go.wpList Go.Code.wp Go.Region.wanted Go.yielded
/-! ### selvage/selvageref15.bounds: function 18 -/
def selvageref15_bounds.m (a0 : Int) : Int × Int × Int := lt (if (decide (a0 = 1)) = true then (decide (a0 = 1)) else (decide (a0 = 7))) fun o1 => (if o1 = true then (((-32768), 32767, 1)) else (if (decide (a0 = 2)) = true then ((0, 65535, 1)) else (if (decide (a0 = 3)) = true then ((0, 63, 1)) else (lt (if (decide (a0 = 5)) = true then (decide (a0 = 5)) else (decide (a0 = 8))) fun o11 => (if o11 = true then (((-32768), 32764, 4)) else (if (decide (a0 = 9)) = true then (((-33554432), 33554428, 4)) else ((0, 0, 1))))))))
set_option maxHeartbeats 4000000 in
set_option maxRecDepth 100000 in
theorem selvageref15_bounds.calls (a0 : Int) (w : World) :
    Ret Try.prog 18 [.int .i64 a0] w fun v w' => v = .tuple #[.int .i64 ((selvageref15_bounds.m a0).1), .int .i64 ((selvageref15_bounds.m a0).2.1), .int .i64 ((selvageref15_bounds.m a0).2.2)] ∧ Below w.heap.size w w' := by
  obtain ⟨r, H⟩ : ∃ r, selvageref15_bounds.m a0 = r := ⟨_, rfl⟩
  rw [H]
  unfold selvageref15_bounds.m at H
  have hp0 := Hp.start w
  refine enter (L := [(0, .int .i64 a0)]) Try.func18 rfl Try.ntmps18 rfl rfl ?_
  refine k_seq ?_
  refine k_region ?_
  refine sv (v := .int .i64 0) rfl rfl rfl (e_assign rfl) ?_
  refine sv (v := .int .i64 0) rfl rfl rfl (e_assign rfl) ?_
  refine sv (v := .int .i64 0) rfl rfl rfl (e_assign rfl) ?_
  refine k_nil ?_
  refine k_seq ?_
  refine k_seq ?_
  refine k_region ?_
  refine sv (v := .int .i64 a0) rfl rfl rfl (e_move (tm rfl rfl)) ?_
  refine k_nil ?_
  refine k_block ?_
  refine k_seq ?_
  refine k_seq ?_
  refine k_region ?_
  refine sv (v := .bool (decide (a0 = 1))) rfl rfl rfl (e_bin (tm rfl rfl) rfl (r_eql rfl)) ?_
  refine sv (v := .bool (decide (a0 = 1))) rfl rfl rfl (e_assign (tm rfl rfl)) ?_
  refine k_nil ?_
  obtain ⟨o1, H, G2⟩ := ltE H
  refine k_cut (fun a w' => ∃ (σ25 : Nat → Value), a = st 18 [(5, .int .i64 a0), (6, .bool o1)] σ25 [] ∧ Hp0 w w' []) ?_ ?_
  · refine k_if (tm rfl rfl) (fun h3 => ?_) (fun h3 => ?_)
    · have H := ift h3 H
      refine k_skip ?_
      obtain rfl := id H
      exact ⟨_, seenF ⟨rfl, rfl, trivial⟩, hp0⟩
    have H := iff_ h3 H
    refine k_region ?_
    refine sv (v := .bool (decide (a0 = 7))) rfl rfl rfl (e_bin (tm rfl rfl) rfl (r_eql rfl)) ?_
    refine sv (v := .bool (decide (a0 = 7))) rfl rfl rfl (e_assign (tm rfl rfl)) ?_
    refine k_nil ?_
    obtain rfl := id H
    exact ⟨_, seenF ⟨rfl, rfl, trivial⟩, hp0⟩
  clear H
  rintro a w' ⟨σ7, rfl, hp5⟩
  have H := G2
  refine k_if (tm rfl rfl) (fun h8 => ?_) (fun h8 => ?_)
  · have H := ift h8 H
    refine k_seq ?_
    refine k_region ?_
    refine sv (v := .int .i64 (-32768)) rfl rfl rfl (e_assign rfl) ?_
    refine sv (v := .int .i64 32767) rfl rfl rfl (e_assign rfl) ?_
    refine sv (v := .int .i64 1) rfl rfl rfl (e_assign rfl) ?_
    refine k_nil ?_
    refine k_ret ?_
    refine q_ret ?_
    obtain rfl := id H
    exact k_end rfl (.tmp rfl rfl (.tmp rfl rfl (.tmp rfl rfl .nil))) rfl ⟨rfl, hp5.below⟩
  have H := iff_ h8 H
  refine k_seq ?_
  refine k_region ?_
  refine sv (v := .bool (decide (a0 = 2))) rfl rfl rfl (e_bin (tm rfl rfl) rfl (r_eql rfl)) ?_
  refine sv (v := .bool (decide (a0 = 2))) rfl rfl rfl (e_assign (tm rfl rfl)) ?_
  refine k_nil ?_
  refine k_if (tm rfl rfl) (fun h9 => ?_) (fun h9 => ?_)
  · have H := ift h9 H
    refine k_seq ?_
    refine k_region ?_
    refine sv (v := .int .i64 0) rfl rfl rfl (e_assign rfl) ?_
    refine sv (v := .int .i64 65535) rfl rfl rfl (e_assign rfl) ?_
    refine sv (v := .int .i64 1) rfl rfl rfl (e_assign rfl) ?_
    refine k_nil ?_
    refine k_ret ?_
    refine q_ret ?_
    obtain rfl := id H
    exact k_end rfl (.tmp rfl rfl (.tmp rfl rfl (.tmp rfl rfl .nil))) rfl ⟨rfl, hp5.below⟩
  have H := iff_ h9 H
  refine k_seq ?_
  refine k_region ?_
  refine sv (v := .bool (decide (a0 = 3))) rfl rfl rfl (e_bin (tm rfl rfl) rfl (r_eql rfl)) ?_
  refine sv (v := .bool (decide (a0 = 3))) rfl rfl rfl (e_assign (tm rfl rfl)) ?_
  refine k_nil ?_
  refine k_if (tm rfl rfl) (fun h10 => ?_) (fun h10 => ?_)
  · have H := ift h10 H
    refine k_seq ?_
    refine k_region ?_
    refine sv (v := .int .i64 0) rfl rfl rfl (e_assign rfl) ?_
    refine sv (v := .int .i64 63) rfl rfl rfl (e_assign rfl) ?_
    refine sv (v := .int .i64 1) rfl rfl rfl (e_assign rfl) ?_
    refine k_nil ?_
    refine k_ret ?_
    refine q_ret ?_
    obtain rfl := id H
    exact k_end rfl (.tmp rfl rfl (.tmp rfl rfl (.tmp rfl rfl .nil))) rfl ⟨rfl, hp5.below⟩
  have H := iff_ h10 H
  refine k_seq ?_
  refine k_seq ?_
  refine k_region ?_
  refine sv (v := .bool (decide (a0 = 5))) rfl rfl rfl (e_bin (tm rfl rfl) rfl (r_eql rfl)) ?_
  refine sv (v := .bool (decide (a0 = 5))) rfl rfl rfl (e_assign (tm rfl rfl)) ?_
  refine k_nil ?_
  obtain ⟨o11, H, G12⟩ := ltE H
  refine k_cut (fun a w' => ∃ (σ24 : Nat → Value), a = st 18 [(5, .int .i64 a0), (13, .bool o11)] σ24 [] ∧ Hp0 w w' []) ?_ ?_
  · refine k_if (tm rfl rfl) (fun h13 => ?_) (fun h13 => ?_)
    · have H := ift h13 H
      refine k_skip ?_
      obtain rfl := id H
      exact ⟨_, seenF ⟨rfl, rfl, trivial⟩, hp5⟩
    have H := iff_ h13 H
    refine k_region ?_
    refine sv (v := .bool (decide (a0 = 8))) rfl rfl rfl (e_bin (tm rfl rfl) rfl (r_eql rfl)) ?_
    refine sv (v := .bool (decide (a0 = 8))) rfl rfl rfl (e_assign (tm rfl rfl)) ?_
    refine k_nil ?_
    obtain rfl := id H
    exact ⟨_, seenF ⟨rfl, rfl, trivial⟩, hp5⟩
  clear H
  rintro a w' ⟨σ17, rfl, hp15⟩
  have H := G12
  refine k_if (tm rfl rfl) (fun h18 => ?_) (fun h18 => ?_)
  · have H := ift h18 H
    refine k_seq ?_
    refine k_region ?_
    refine sv (v := .int .i64 (-32768)) rfl rfl rfl (e_assign rfl) ?_
    refine sv (v := .int .i64 32764) rfl rfl rfl (e_assign rfl) ?_
    refine sv (v := .int .i64 4) rfl rfl rfl (e_assign rfl) ?_
    refine k_nil ?_
    refine k_ret ?_
    refine q_ret ?_
    obtain rfl := id H
    exact k_end rfl (.tmp rfl rfl (.tmp rfl rfl (.tmp rfl rfl .nil))) rfl ⟨rfl, hp15.below⟩
  have H := iff_ h18 H
  refine k_seq ?_
  refine k_region ?_
  refine sv (v := .bool (decide (a0 = 9))) rfl rfl rfl (e_bin (tm rfl rfl) rfl (r_eql rfl)) ?_
  refine sv (v := .bool (decide (a0 = 9))) rfl rfl rfl (e_assign (tm rfl rfl)) ?_
  refine k_nil ?_
  refine k_if (tm rfl rfl) (fun h19 => ?_) (fun h19 => ?_)
  · have H := ift h19 H
    refine k_seq ?_
    refine k_region ?_
    refine sv (v := .int .i64 (-33554432)) rfl rfl rfl (e_assign rfl) ?_
    refine sv (v := .int .i64 33554428) rfl rfl rfl (e_assign rfl) ?_
    refine sv (v := .int .i64 4) rfl rfl rfl (e_assign rfl) ?_
    refine k_nil ?_
    refine k_ret ?_
    refine q_ret ?_
    obtain rfl := id H
    exact k_end rfl (.tmp rfl rfl (.tmp rfl rfl (.tmp rfl rfl .nil))) rfl ⟨rfl, hp15.below⟩
  have H := iff_ h19 H
  refine k_skip ?_
  refine k_seq ?_
  refine k_region ?_
  refine sv (v := .int .i64 0) rfl rfl rfl (e_assign rfl) ?_
  refine sv (v := .int .i64 0) rfl rfl rfl (e_assign rfl) ?_
  refine sv (v := .int .i64 1) rfl rfl rfl (e_assign rfl) ?_
  refine k_nil ?_
  refine k_ret ?_
  obtain rfl := id H
  exact k_end rfl (.tmp rfl rfl (.tmp rfl rfl (.tmp rfl rfl .nil))) rfl ⟨rfl, hp15.below⟩

end Go.Proofs.Ytallojficgiemaa.W

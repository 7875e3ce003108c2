/- Functions of the program as plain Lean functions, and that the calls do what they say: written by wip/tools/walk.py. -/
import Derived.Test.YtallojficgiemaaTy
set_option linter.unusedVariables false
set_option linter.unusedSimpArgs false
set_option linter.unusedSectionVars false
namespace Go.Proofs.Ytallojficgiemaa.W
open Go Go.RowKit Go.Proofs.Ytallojficgiemaa.B
attribute [local irreducible] Go.wpList Go.Code.wp Go.Region.wanted Go.yielded
/-! ### selvage/isa.formOf: function 12 -/
def isa_formOf.m (a0 : Int) : Int × Int := if (decide (a0 = 1)) = true then ((1, 939524096)) else (if (decide (a0 = 2)) = true then ((1, 1006632960)) else (if (decide (a0 = 3)) = true then ((2, 1610612736)) else (if (decide (a0 = 4)) = true then ((2, 1677721600)) else (if (decide (a0 = 5)) = true then ((3, 2013265924)) else (if (decide (a0 = 6)) = true then ((4, 2080375316)) else (if (decide (a0 = 7)) = true then ((4, 2080374864)) else (if (decide (a0 = 8)) = true then ((4, 2080375250)) else (if (decide (a0 = 9)) = true then ((4, 2080375762)) else (if (decide (a0 = 12)) = true then ((4, 2080374826)) else (if (decide (a0 = 13)) = true then ((4, 2080375082)) else (if (decide (a0 = 14)) = true then ((4, 2080374952)) else (if (decide (a0 = 15)) = true then ((4, 2080375213)) else (if (decide (a0 = 10)) = true then ((5, 3892314112)) else (if (decide (a0 = 11)) = true then ((5, 4160749568)) else (if (decide (a0 = 16)) = true then ((6, 2082471936)) else (if (decide (a0 = 17)) = true then ((7, 740294656)) else (if (decide (a0 = 18)) = true then ((8, 1073741824)) else (if (decide (a0 = 19)) = true then ((9, 1207959552)) else (if (decide (a0 = 20)) = true then ((10, 2080375980)) else (if (decide (a0 = 21)) = true then ((10, 2082473132)) else (if (decide (a0 = 22)) = true then ((10, 1275068716)) else (if (decide (a0 = 23)) = true then ((10, 1140850690)) else ((0, 0))))))))))))))))))))))))
set_option maxHeartbeats 4000000 in
set_option maxRecDepth 100000 in
theorem isa_formOf.calls (a0 : Int) (w : World) :
    Ret Try.prog 12 [.int .i64 a0] w fun v w' => v = .tuple #[.int .i64 ((isa_formOf.m a0).1), .int .u32 ((isa_formOf.m a0).2)] ∧ Below w.heap.size w w' := by
  obtain ⟨r, H⟩ : ∃ r, isa_formOf.m a0 = r := ⟨_, rfl⟩
  rw [H]
  unfold isa_formOf.m at H
  have hp0 := Hp.start w
  refine enter (L := [(0, .int .i64 a0)]) Try.func12 rfl Try.ntmps12 rfl rfl ?_
  refine k_seq ?_
  refine k_region ?_
  refine sv (v := .int .i64 0) rfl rfl rfl (e_assign rfl) ?_
  refine sv (v := .int .u32 0) rfl rfl rfl (e_assign rfl) ?_
  refine k_nil ?_
  refine k_seq ?_
  refine k_seq ?_
  refine k_region ?_
  refine sv (v := .int .i64 a0) rfl rfl rfl (e_move (tm rfl rfl)) ?_
  refine k_nil ?_
  refine k_block ?_
  refine k_seq ?_
  refine k_region ?_
  refine sv (v := .bool (decide (a0 = 1))) rfl rfl rfl (e_bin (tm rfl rfl) rfl (r_eql rfl)) ?_
  refine sv (v := .bool (decide (a0 = 1))) rfl rfl rfl (e_assign (tm rfl rfl)) ?_
  refine k_nil ?_
  refine k_if (tm rfl rfl) (fun h1 => ?_) (fun h1 => ?_)
  · have H := ift h1 H
    refine k_seq ?_
    refine k_region ?_
    refine sv (v := .int .i64 1) rfl rfl rfl (e_assign rfl) ?_
    refine sv (v := .int .u32 939524096) rfl rfl rfl (e_assign rfl) ?_
    refine k_nil ?_
    refine k_ret ?_
    refine q_ret ?_
    obtain rfl := id H
    exact k_end rfl (.tmp rfl rfl (.tmp rfl rfl .nil)) rfl ⟨rfl, hp0.below⟩
  have H := iff_ h1 H
  refine k_seq ?_
  refine k_region ?_
  refine sv (v := .bool (decide (a0 = 2))) rfl rfl rfl (e_bin (tm rfl rfl) rfl (r_eql rfl)) ?_
  refine sv (v := .bool (decide (a0 = 2))) rfl rfl rfl (e_assign (tm rfl rfl)) ?_
  refine k_nil ?_
  refine k_if (tm rfl rfl) (fun h2 => ?_) (fun h2 => ?_)
  · have H := ift h2 H
    refine k_seq ?_
    refine k_region ?_
    refine sv (v := .int .i64 1) rfl rfl rfl (e_assign rfl) ?_
    refine sv (v := .int .u32 1006632960) rfl rfl rfl (e_assign rfl) ?_
    refine k_nil ?_
    refine k_ret ?_
    refine q_ret ?_
    obtain rfl := id H
    exact k_end rfl (.tmp rfl rfl (.tmp rfl rfl .nil)) rfl ⟨rfl, hp0.below⟩
  have H := iff_ h2 H
  refine k_seq ?_
  refine k_region ?_
  refine sv (v := .bool (decide (a0 = 3))) rfl rfl rfl (e_bin (tm rfl rfl) rfl (r_eql rfl)) ?_
  refine sv (v := .bool (decide (a0 = 3))) rfl rfl rfl (e_assign (tm rfl rfl)) ?_
  refine k_nil ?_
  refine k_if (tm rfl rfl) (fun h3 => ?_) (fun h3 => ?_)
  · have H := ift h3 H
    refine k_seq ?_
    refine k_region ?_
    refine sv (v := .int .i64 2) rfl rfl rfl (e_assign rfl) ?_
    refine sv (v := .int .u32 1610612736) rfl rfl rfl (e_assign rfl) ?_
    refine k_nil ?_
    refine k_ret ?_
    refine q_ret ?_
    obtain rfl := id H
    exact k_end rfl (.tmp rfl rfl (.tmp rfl rfl .nil)) rfl ⟨rfl, hp0.below⟩
  have H := iff_ h3 H
  refine k_seq ?_
  refine k_region ?_
  refine sv (v := .bool (decide (a0 = 4))) rfl rfl rfl (e_bin (tm rfl rfl) rfl (r_eql rfl)) ?_
  refine sv (v := .bool (decide (a0 = 4))) rfl rfl rfl (e_assign (tm rfl rfl)) ?_
  refine k_nil ?_
  refine k_if (tm rfl rfl) (fun h4 => ?_) (fun h4 => ?_)
  · have H := ift h4 H
    refine k_seq ?_
    refine k_region ?_
    refine sv (v := .int .i64 2) rfl rfl rfl (e_assign rfl) ?_
    refine sv (v := .int .u32 1677721600) rfl rfl rfl (e_assign rfl) ?_
    refine k_nil ?_
    refine k_ret ?_
    refine q_ret ?_
    obtain rfl := id H
    exact k_end rfl (.tmp rfl rfl (.tmp rfl rfl .nil)) rfl ⟨rfl, hp0.below⟩
  have H := iff_ h4 H
  refine k_seq ?_
  refine k_region ?_
  refine sv (v := .bool (decide (a0 = 5))) rfl rfl rfl (e_bin (tm rfl rfl) rfl (r_eql rfl)) ?_
  refine sv (v := .bool (decide (a0 = 5))) rfl rfl rfl (e_assign (tm rfl rfl)) ?_
  refine k_nil ?_
  refine k_if (tm rfl rfl) (fun h5 => ?_) (fun h5 => ?_)
  · have H := ift h5 H
    refine k_seq ?_
    refine k_region ?_
    refine sv (v := .int .i64 3) rfl rfl rfl (e_assign rfl) ?_
    refine sv (v := .int .u32 2013265924) rfl rfl rfl (e_assign rfl) ?_
    refine k_nil ?_
    refine k_ret ?_
    refine q_ret ?_
    obtain rfl := id H
    exact k_end rfl (.tmp rfl rfl (.tmp rfl rfl .nil)) rfl ⟨rfl, hp0.below⟩
  have H := iff_ h5 H
  refine k_seq ?_
  refine k_region ?_
  refine sv (v := .bool (decide (a0 = 6))) rfl rfl rfl (e_bin (tm rfl rfl) rfl (r_eql rfl)) ?_
  refine sv (v := .bool (decide (a0 = 6))) rfl rfl rfl (e_assign (tm rfl rfl)) ?_
  refine k_nil ?_
  refine k_if (tm rfl rfl) (fun h6 => ?_) (fun h6 => ?_)
  · have H := ift h6 H
    refine k_seq ?_
    refine k_region ?_
    refine sv (v := .int .i64 4) rfl rfl rfl (e_assign rfl) ?_
    refine sv (v := .int .u32 2080375316) rfl rfl rfl (e_assign rfl) ?_
    refine k_nil ?_
    refine k_ret ?_
    refine q_ret ?_
    obtain rfl := id H
    exact k_end rfl (.tmp rfl rfl (.tmp rfl rfl .nil)) rfl ⟨rfl, hp0.below⟩
  have H := iff_ h6 H
  refine k_seq ?_
  refine k_region ?_
  refine sv (v := .bool (decide (a0 = 7))) rfl rfl rfl (e_bin (tm rfl rfl) rfl (r_eql rfl)) ?_
  refine sv (v := .bool (decide (a0 = 7))) rfl rfl rfl (e_assign (tm rfl rfl)) ?_
  refine k_nil ?_
  refine k_if (tm rfl rfl) (fun h7 => ?_) (fun h7 => ?_)
  · have H := ift h7 H
    refine k_seq ?_
    refine k_region ?_
    refine sv (v := .int .i64 4) rfl rfl rfl (e_assign rfl) ?_
    refine sv (v := .int .u32 2080374864) rfl rfl rfl (e_assign rfl) ?_
    refine k_nil ?_
    refine k_ret ?_
    refine q_ret ?_
    obtain rfl := id H
    exact k_end rfl (.tmp rfl rfl (.tmp rfl rfl .nil)) rfl ⟨rfl, hp0.below⟩
  have H := iff_ h7 H
  refine k_seq ?_
  refine k_region ?_
  refine sv (v := .bool (decide (a0 = 8))) rfl rfl rfl (e_bin (tm rfl rfl) rfl (r_eql rfl)) ?_
  refine sv (v := .bool (decide (a0 = 8))) rfl rfl rfl (e_assign (tm rfl rfl)) ?_
  refine k_nil ?_
  refine k_if (tm rfl rfl) (fun h8 => ?_) (fun h8 => ?_)
  · have H := ift h8 H
    refine k_seq ?_
    refine k_region ?_
    refine sv (v := .int .i64 4) rfl rfl rfl (e_assign rfl) ?_
    refine sv (v := .int .u32 2080375250) rfl rfl rfl (e_assign rfl) ?_
    refine k_nil ?_
    refine k_ret ?_
    refine q_ret ?_
    obtain rfl := id H
    exact k_end rfl (.tmp rfl rfl (.tmp rfl rfl .nil)) rfl ⟨rfl, hp0.below⟩
  have H := iff_ h8 H
  refine k_seq ?_
  refine k_region ?_
  refine sv (v := .bool (decide (a0 = 9))) rfl rfl rfl (e_bin (tm rfl rfl) rfl (r_eql rfl)) ?_
  refine sv (v := .bool (decide (a0 = 9))) rfl rfl rfl (e_assign (tm rfl rfl)) ?_
  refine k_nil ?_
  refine k_if (tm rfl rfl) (fun h9 => ?_) (fun h9 => ?_)
  · have H := ift h9 H
    refine k_seq ?_
    refine k_region ?_
    refine sv (v := .int .i64 4) rfl rfl rfl (e_assign rfl) ?_
    refine sv (v := .int .u32 2080375762) rfl rfl rfl (e_assign rfl) ?_
    refine k_nil ?_
    refine k_ret ?_
    refine q_ret ?_
    obtain rfl := id H
    exact k_end rfl (.tmp rfl rfl (.tmp rfl rfl .nil)) rfl ⟨rfl, hp0.below⟩
  have H := iff_ h9 H
  refine k_seq ?_
  refine k_region ?_
  refine sv (v := .bool (decide (a0 = 12))) rfl rfl rfl (e_bin (tm rfl rfl) rfl (r_eql rfl)) ?_
  refine sv (v := .bool (decide (a0 = 12))) rfl rfl rfl (e_assign (tm rfl rfl)) ?_
  refine k_nil ?_
  refine k_if (tm rfl rfl) (fun h10 => ?_) (fun h10 => ?_)
  · have H := ift h10 H
    refine k_seq ?_
    refine k_region ?_
    refine sv (v := .int .i64 4) rfl rfl rfl (e_assign rfl) ?_
    refine sv (v := .int .u32 2080374826) rfl rfl rfl (e_assign rfl) ?_
    refine k_nil ?_
    refine k_ret ?_
    refine q_ret ?_
    obtain rfl := id H
    exact k_end rfl (.tmp rfl rfl (.tmp rfl rfl .nil)) rfl ⟨rfl, hp0.below⟩
  have H := iff_ h10 H
  refine k_seq ?_
  refine k_region ?_
  refine sv (v := .bool (decide (a0 = 13))) rfl rfl rfl (e_bin (tm rfl rfl) rfl (r_eql rfl)) ?_
  refine sv (v := .bool (decide (a0 = 13))) rfl rfl rfl (e_assign (tm rfl rfl)) ?_
  refine k_nil ?_
  refine k_if (tm rfl rfl) (fun h11 => ?_) (fun h11 => ?_)
  · have H := ift h11 H
    refine k_seq ?_
    refine k_region ?_
    refine sv (v := .int .i64 4) rfl rfl rfl (e_assign rfl) ?_
    refine sv (v := .int .u32 2080375082) rfl rfl rfl (e_assign rfl) ?_
    refine k_nil ?_
    refine k_ret ?_
    refine q_ret ?_
    obtain rfl := id H
    exact k_end rfl (.tmp rfl rfl (.tmp rfl rfl .nil)) rfl ⟨rfl, hp0.below⟩
  have H := iff_ h11 H
  refine k_seq ?_
  refine k_region ?_
  refine sv (v := .bool (decide (a0 = 14))) rfl rfl rfl (e_bin (tm rfl rfl) rfl (r_eql rfl)) ?_
  refine sv (v := .bool (decide (a0 = 14))) rfl rfl rfl (e_assign (tm rfl rfl)) ?_
  refine k_nil ?_
  refine k_if (tm rfl rfl) (fun h12 => ?_) (fun h12 => ?_)
  · have H := ift h12 H
    refine k_seq ?_
    refine k_region ?_
    refine sv (v := .int .i64 4) rfl rfl rfl (e_assign rfl) ?_
    refine sv (v := .int .u32 2080374952) rfl rfl rfl (e_assign rfl) ?_
    refine k_nil ?_
    refine k_ret ?_
    refine q_ret ?_
    obtain rfl := id H
    exact k_end rfl (.tmp rfl rfl (.tmp rfl rfl .nil)) rfl ⟨rfl, hp0.below⟩
  have H := iff_ h12 H
  refine k_seq ?_
  refine k_region ?_
  refine sv (v := .bool (decide (a0 = 15))) rfl rfl rfl (e_bin (tm rfl rfl) rfl (r_eql rfl)) ?_
  refine sv (v := .bool (decide (a0 = 15))) rfl rfl rfl (e_assign (tm rfl rfl)) ?_
  refine k_nil ?_
  refine k_if (tm rfl rfl) (fun h13 => ?_) (fun h13 => ?_)
  · have H := ift h13 H
    refine k_seq ?_
    refine k_region ?_
    refine sv (v := .int .i64 4) rfl rfl rfl (e_assign rfl) ?_
    refine sv (v := .int .u32 2080375213) rfl rfl rfl (e_assign rfl) ?_
    refine k_nil ?_
    refine k_ret ?_
    refine q_ret ?_
    obtain rfl := id H
    exact k_end rfl (.tmp rfl rfl (.tmp rfl rfl .nil)) rfl ⟨rfl, hp0.below⟩
  have H := iff_ h13 H
  refine k_seq ?_
  refine k_region ?_
  refine sv (v := .bool (decide (a0 = 10))) rfl rfl rfl (e_bin (tm rfl rfl) rfl (r_eql rfl)) ?_
  refine sv (v := .bool (decide (a0 = 10))) rfl rfl rfl (e_assign (tm rfl rfl)) ?_
  refine k_nil ?_
  refine k_if (tm rfl rfl) (fun h14 => ?_) (fun h14 => ?_)
  · have H := ift h14 H
    refine k_seq ?_
    refine k_region ?_
    refine sv (v := .int .i64 5) rfl rfl rfl (e_assign rfl) ?_
    refine sv (v := .int .u32 3892314112) rfl rfl rfl (e_assign rfl) ?_
    refine k_nil ?_
    refine k_ret ?_
    refine q_ret ?_
    obtain rfl := id H
    exact k_end rfl (.tmp rfl rfl (.tmp rfl rfl .nil)) rfl ⟨rfl, hp0.below⟩
  have H := iff_ h14 H
  refine k_seq ?_
  refine k_region ?_
  refine sv (v := .bool (decide (a0 = 11))) rfl rfl rfl (e_bin (tm rfl rfl) rfl (r_eql rfl)) ?_
  refine sv (v := .bool (decide (a0 = 11))) rfl rfl rfl (e_assign (tm rfl rfl)) ?_
  refine k_nil ?_
  refine k_if (tm rfl rfl) (fun h15 => ?_) (fun h15 => ?_)
  · have H := ift h15 H
    refine k_seq ?_
    refine k_region ?_
    refine sv (v := .int .i64 5) rfl rfl rfl (e_assign rfl) ?_
    refine sv (v := .int .u32 4160749568) rfl rfl rfl (e_assign rfl) ?_
    refine k_nil ?_
    refine k_ret ?_
    refine q_ret ?_
    obtain rfl := id H
    exact k_end rfl (.tmp rfl rfl (.tmp rfl rfl .nil)) rfl ⟨rfl, hp0.below⟩
  have H := iff_ h15 H
  refine k_seq ?_
  refine k_region ?_
  refine sv (v := .bool (decide (a0 = 16))) rfl rfl rfl (e_bin (tm rfl rfl) rfl (r_eql rfl)) ?_
  refine sv (v := .bool (decide (a0 = 16))) rfl rfl rfl (e_assign (tm rfl rfl)) ?_
  refine k_nil ?_
  refine k_if (tm rfl rfl) (fun h16 => ?_) (fun h16 => ?_)
  · have H := ift h16 H
    refine k_seq ?_
    refine k_region ?_
    refine sv (v := .int .i64 6) rfl rfl rfl (e_assign rfl) ?_
    refine sv (v := .int .u32 2082471936) rfl rfl rfl (e_assign rfl) ?_
    refine k_nil ?_
    refine k_ret ?_
    refine q_ret ?_
    obtain rfl := id H
    exact k_end rfl (.tmp rfl rfl (.tmp rfl rfl .nil)) rfl ⟨rfl, hp0.below⟩
  have H := iff_ h16 H
  refine k_seq ?_
  refine k_region ?_
  refine sv (v := .bool (decide (a0 = 17))) rfl rfl rfl (e_bin (tm rfl rfl) rfl (r_eql rfl)) ?_
  refine sv (v := .bool (decide (a0 = 17))) rfl rfl rfl (e_assign (tm rfl rfl)) ?_
  refine k_nil ?_
  refine k_if (tm rfl rfl) (fun h17 => ?_) (fun h17 => ?_)
  · have H := ift h17 H
    refine k_seq ?_
    refine k_region ?_
    refine sv (v := .int .i64 7) rfl rfl rfl (e_assign rfl) ?_
    refine sv (v := .int .u32 740294656) rfl rfl rfl (e_assign rfl) ?_
    refine k_nil ?_
    refine k_ret ?_
    refine q_ret ?_
    obtain rfl := id H
    exact k_end rfl (.tmp rfl rfl (.tmp rfl rfl .nil)) rfl ⟨rfl, hp0.below⟩
  have H := iff_ h17 H
  refine k_seq ?_
  refine k_region ?_
  refine sv (v := .bool (decide (a0 = 18))) rfl rfl rfl (e_bin (tm rfl rfl) rfl (r_eql rfl)) ?_
  refine sv (v := .bool (decide (a0 = 18))) rfl rfl rfl (e_assign (tm rfl rfl)) ?_
  refine k_nil ?_
  refine k_if (tm rfl rfl) (fun h18 => ?_) (fun h18 => ?_)
  · have H := ift h18 H
    refine k_seq ?_
    refine k_region ?_
    refine sv (v := .int .i64 8) rfl rfl rfl (e_assign rfl) ?_
    refine sv (v := .int .u32 1073741824) rfl rfl rfl (e_assign rfl) ?_
    refine k_nil ?_
    refine k_ret ?_
    refine q_ret ?_
    obtain rfl := id H
    exact k_end rfl (.tmp rfl rfl (.tmp rfl rfl .nil)) rfl ⟨rfl, hp0.below⟩
  have H := iff_ h18 H
  refine k_seq ?_
  refine k_region ?_
  refine sv (v := .bool (decide (a0 = 19))) rfl rfl rfl (e_bin (tm rfl rfl) rfl (r_eql rfl)) ?_
  refine sv (v := .bool (decide (a0 = 19))) rfl rfl rfl (e_assign (tm rfl rfl)) ?_
  refine k_nil ?_
  refine k_if (tm rfl rfl) (fun h19 => ?_) (fun h19 => ?_)
  · have H := ift h19 H
    refine k_seq ?_
    refine k_region ?_
    refine sv (v := .int .i64 9) rfl rfl rfl (e_assign rfl) ?_
    refine sv (v := .int .u32 1207959552) rfl rfl rfl (e_assign rfl) ?_
    refine k_nil ?_
    refine k_ret ?_
    refine q_ret ?_
    obtain rfl := id H
    exact k_end rfl (.tmp rfl rfl (.tmp rfl rfl .nil)) rfl ⟨rfl, hp0.below⟩
  have H := iff_ h19 H
  refine k_seq ?_
  refine k_region ?_
  refine sv (v := .bool (decide (a0 = 20))) rfl rfl rfl (e_bin (tm rfl rfl) rfl (r_eql rfl)) ?_
  refine sv (v := .bool (decide (a0 = 20))) rfl rfl rfl (e_assign (tm rfl rfl)) ?_
  refine k_nil ?_
  refine k_if (tm rfl rfl) (fun h20 => ?_) (fun h20 => ?_)
  · have H := ift h20 H
    refine k_seq ?_
    refine k_region ?_
    refine sv (v := .int .i64 10) rfl rfl rfl (e_assign rfl) ?_
    refine sv (v := .int .u32 2080375980) rfl rfl rfl (e_assign rfl) ?_
    refine k_nil ?_
    refine k_ret ?_
    refine q_ret ?_
    obtain rfl := id H
    exact k_end rfl (.tmp rfl rfl (.tmp rfl rfl .nil)) rfl ⟨rfl, hp0.below⟩
  have H := iff_ h20 H
  refine k_seq ?_
  refine k_region ?_
  refine sv (v := .bool (decide (a0 = 21))) rfl rfl rfl (e_bin (tm rfl rfl) rfl (r_eql rfl)) ?_
  refine sv (v := .bool (decide (a0 = 21))) rfl rfl rfl (e_assign (tm rfl rfl)) ?_
  refine k_nil ?_
  refine k_if (tm rfl rfl) (fun h21 => ?_) (fun h21 => ?_)
  · have H := ift h21 H
    refine k_seq ?_
    refine k_region ?_
    refine sv (v := .int .i64 10) rfl rfl rfl (e_assign rfl) ?_
    refine sv (v := .int .u32 2082473132) rfl rfl rfl (e_assign rfl) ?_
    refine k_nil ?_
    refine k_ret ?_
    refine q_ret ?_
    obtain rfl := id H
    exact k_end rfl (.tmp rfl rfl (.tmp rfl rfl .nil)) rfl ⟨rfl, hp0.below⟩
  have H := iff_ h21 H
  refine k_seq ?_
  refine k_region ?_
  refine sv (v := .bool (decide (a0 = 22))) rfl rfl rfl (e_bin (tm rfl rfl) rfl (r_eql rfl)) ?_
  refine sv (v := .bool (decide (a0 = 22))) rfl rfl rfl (e_assign (tm rfl rfl)) ?_
  refine k_nil ?_
  refine k_if (tm rfl rfl) (fun h22 => ?_) (fun h22 => ?_)
  · have H := ift h22 H
    refine k_seq ?_
    refine k_region ?_
    refine sv (v := .int .i64 10) rfl rfl rfl (e_assign rfl) ?_
    refine sv (v := .int .u32 1275068716) rfl rfl rfl (e_assign rfl) ?_
    refine k_nil ?_
    refine k_ret ?_
    refine q_ret ?_
    obtain rfl := id H
    exact k_end rfl (.tmp rfl rfl (.tmp rfl rfl .nil)) rfl ⟨rfl, hp0.below⟩
  have H := iff_ h22 H
  refine k_seq ?_
  refine k_region ?_
  refine sv (v := .bool (decide (a0 = 23))) rfl rfl rfl (e_bin (tm rfl rfl) rfl (r_eql rfl)) ?_
  refine sv (v := .bool (decide (a0 = 23))) rfl rfl rfl (e_assign (tm rfl rfl)) ?_
  refine k_nil ?_
  refine k_if (tm rfl rfl) (fun h23 => ?_) (fun h23 => ?_)
  · have H := ift h23 H
    refine k_seq ?_
    refine k_region ?_
    refine sv (v := .int .i64 10) rfl rfl rfl (e_assign rfl) ?_
    refine sv (v := .int .u32 1140850690) rfl rfl rfl (e_assign rfl) ?_
    refine k_nil ?_
    refine k_ret ?_
    refine q_ret ?_
    obtain rfl := id H
    exact k_end rfl (.tmp rfl rfl (.tmp rfl rfl .nil)) rfl ⟨rfl, hp0.below⟩
  have H := iff_ h23 H
  refine k_skip ?_
  refine k_seq ?_
  refine k_region ?_
  refine sv (v := .int .i64 0) rfl rfl rfl (e_assign rfl) ?_
  refine sv (v := .int .u32 0) rfl rfl rfl (e_assign rfl) ?_
  refine k_nil ?_
  refine k_ret ?_
  obtain rfl := id H
  exact k_end rfl (.tmp rfl rfl (.tmp rfl rfl .nil)) rfl ⟨rfl, hp0.below⟩

end Go.Proofs.Ytallojficgiemaa.W

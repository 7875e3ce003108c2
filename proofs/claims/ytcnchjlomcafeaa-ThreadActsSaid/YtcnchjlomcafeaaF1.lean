/- Functions of the program as plain Lean functions, and that the calls do what they say: written by w2.py. -/
import Derived.Test.YtcnchjlomcafeaaDefer
import Derived.Test.YtcnchjlomcafeaaTy
set_option linter.unusedVariables false
set_option linter.unusedSimpArgs false
set_option linter.unusedSectionVars false
namespace Go.Proofs.Ytcnchjlomcafeaa.W
open Go Go.RowKit Go.Proofs.Ytcnchjlomcafeaa.B
attribute [local irreducible] Go.wpList Go.Code.wp Go.Region.wanted Go.yielded
/-! ### selvage/isa.used: function 54 -/
def isa_used.m (a0 : Int) : Bool × Bool × Bool × Int × Int × Int :=
  if (decide (a0 = 1)) = true then ((true, true, false, (-32768), 32767, 1)) else (if (decide (a0 = 2)) = true then ((true, true, false, 0, 65535, 1)) else (if (decide (a0 = 3)) = true then ((true, true, false, 0, 63, 1)) else (if (decide (a0 = 4)) = true then ((true, true, true, 0, 0, 1)) else (if (decide (a0 = 5)) = true then ((true, true, false, (-32768), 32764, 4)) else (if (decide (a0 = 6)) = true then ((false, true, true, 0, 0, 1)) else (if (decide (a0 = 7)) = true then ((false, true, false, (-32768), 32767, 1)) else (if (decide (a0 = 8)) = true then ((true, false, false, (-32768), 32764, 4)) else (if (decide (a0 = 9)) = true then ((false, false, false, (-33554432), 33554428, 4)) else ((false, false, false, 0, 0, 1))))))))))
set_option maxHeartbeats 4000000 in
set_option maxRecDepth 100000 in
theorem isa_used.calls (a0 : Int) (w : World) :
    Ret Try.prog 54 [.int .i64 a0] w fun v w' => v = .tuple #[.bool ((isa_used.m a0).1), .bool ((isa_used.m a0).2.1), .bool ((isa_used.m a0).2.2.1), .int .i64 ((isa_used.m a0).2.2.2.1), .int .i64 ((isa_used.m a0).2.2.2.2.1), .int .i64 ((isa_used.m a0).2.2.2.2.2)] ∧ Aft w w' [] [] := by
  obtain ⟨r, H⟩ : ∃ r, isa_used.m a0 = r := ⟨_, rfl⟩
  rw [H]
  unfold isa_used.m at H
  have hp0 := Hp.startR (F := no) (R := []) (Have.nil w) (fun _ h => h.elim)
  have ep0 := Ep.refl no [] w
  refine enter (L := [(0, .int .i64 a0)]) Try.func54 rfl Try.ntmps54 rfl rfl ?_
  refine k_seq ?_
  refine k_region ?_
  refine sv (v := .bool false) rfl rfl rfl (e_assign rfl) ?_
  refine sv (v := .bool false) rfl rfl rfl (e_assign rfl) ?_
  refine sv (v := .bool false) rfl rfl rfl (e_assign rfl) ?_
  refine sv (v := .int .i64 0) rfl rfl rfl (e_assign rfl) ?_
  refine sv (v := .int .i64 0) rfl rfl rfl (e_assign rfl) ?_
  refine sv (v := .int .i64 0) rfl rfl rfl (e_assign rfl) ?_
  refine k_nil ?_
  refine k_seq ?_
  refine k_seq ?_
  refine k_region ?_
  refine sv (v := .int .i64 a0) rfl rfl rfl (e_move (tm rfl rfl)) ?_
  refine k_nil ?_
  refine k_block ?_
  refine k_seq ?_
  refine k_region ?_
  refine sv (v := .bool (decide (a0 = 1))) rfl rfl rfl (e_bin (tm rfl rfl) rfl (r_eql rfl)) ?_
  refine sv (v := .bool (decide (a0 = 1))) rfl rfl rfl (e_assign (tm rfl rfl)) ?_
  refine k_nil ?_
  refine k_if (tm rfl rfl) (fun h_1 => ?_) (fun h_1 => ?_)
  · have H := ift h_1 H
    refine k_seq ?_
    refine k_region ?_
    refine sv (v := .bool true) rfl rfl rfl (e_assign rfl) ?_
    refine sv (v := .bool true) rfl rfl rfl (e_assign rfl) ?_
    refine sv (v := .bool false) rfl rfl rfl (e_assign rfl) ?_
    refine sv (v := .int .i64 (-32768)) rfl rfl rfl (e_assign rfl) ?_
    refine sv (v := .int .i64 32767) rfl rfl rfl (e_assign rfl) ?_
    refine sv (v := .int .i64 1) rfl rfl rfl (e_assign rfl) ?_
    refine k_nil ?_
    refine k_ret ?_
    refine q_ret ?_
    obtain rfl := id H
    exact k_end rfl (.tmp rfl rfl (.tmp rfl rfl (.tmp rfl rfl (.tmp rfl rfl (.tmp rfl rfl (.tmp rfl rfl .nil)))))) rfl ⟨rfl, (hp0).aft⟩
  have H := iff_ h_1 H
  refine k_seq ?_
  refine k_region ?_
  refine sv (v := .bool (decide (a0 = 2))) rfl rfl rfl (e_bin (tm rfl rfl) rfl (r_eql rfl)) ?_
  refine sv (v := .bool (decide (a0 = 2))) rfl rfl rfl (e_assign (tm rfl rfl)) ?_
  refine k_nil ?_
  refine k_if (tm rfl rfl) (fun h_2 => ?_) (fun h_2 => ?_)
  · have H := ift h_2 H
    refine k_seq ?_
    refine k_region ?_
    refine sv (v := .bool true) rfl rfl rfl (e_assign rfl) ?_
    refine sv (v := .bool true) rfl rfl rfl (e_assign rfl) ?_
    refine sv (v := .bool false) rfl rfl rfl (e_assign rfl) ?_
    refine sv (v := .int .i64 0) rfl rfl rfl (e_assign rfl) ?_
    refine sv (v := .int .i64 65535) rfl rfl rfl (e_assign rfl) ?_
    refine sv (v := .int .i64 1) rfl rfl rfl (e_assign rfl) ?_
    refine k_nil ?_
    refine k_ret ?_
    refine q_ret ?_
    obtain rfl := id H
    exact k_end rfl (.tmp rfl rfl (.tmp rfl rfl (.tmp rfl rfl (.tmp rfl rfl (.tmp rfl rfl (.tmp rfl rfl .nil)))))) rfl ⟨rfl, (hp0).aft⟩
  have H := iff_ h_2 H
  refine k_seq ?_
  refine k_region ?_
  refine sv (v := .bool (decide (a0 = 3))) rfl rfl rfl (e_bin (tm rfl rfl) rfl (r_eql rfl)) ?_
  refine sv (v := .bool (decide (a0 = 3))) rfl rfl rfl (e_assign (tm rfl rfl)) ?_
  refine k_nil ?_
  refine k_if (tm rfl rfl) (fun h_3 => ?_) (fun h_3 => ?_)
  · have H := ift h_3 H
    refine k_seq ?_
    refine k_region ?_
    refine sv (v := .bool true) rfl rfl rfl (e_assign rfl) ?_
    refine sv (v := .bool true) rfl rfl rfl (e_assign rfl) ?_
    refine sv (v := .bool false) rfl rfl rfl (e_assign rfl) ?_
    refine sv (v := .int .i64 0) rfl rfl rfl (e_assign rfl) ?_
    refine sv (v := .int .i64 63) rfl rfl rfl (e_assign rfl) ?_
    refine sv (v := .int .i64 1) rfl rfl rfl (e_assign rfl) ?_
    refine k_nil ?_
    refine k_ret ?_
    refine q_ret ?_
    obtain rfl := id H
    exact k_end rfl (.tmp rfl rfl (.tmp rfl rfl (.tmp rfl rfl (.tmp rfl rfl (.tmp rfl rfl (.tmp rfl rfl .nil)))))) rfl ⟨rfl, (hp0).aft⟩
  have H := iff_ h_3 H
  refine k_seq ?_
  refine k_region ?_
  refine sv (v := .bool (decide (a0 = 4))) rfl rfl rfl (e_bin (tm rfl rfl) rfl (r_eql rfl)) ?_
  refine sv (v := .bool (decide (a0 = 4))) rfl rfl rfl (e_assign (tm rfl rfl)) ?_
  refine k_nil ?_
  refine k_if (tm rfl rfl) (fun h_4 => ?_) (fun h_4 => ?_)
  · have H := ift h_4 H
    refine k_seq ?_
    refine k_region ?_
    refine sv (v := .bool true) rfl rfl rfl (e_assign rfl) ?_
    refine sv (v := .bool true) rfl rfl rfl (e_assign rfl) ?_
    refine sv (v := .bool true) rfl rfl rfl (e_assign rfl) ?_
    refine sv (v := .int .i64 0) rfl rfl rfl (e_assign rfl) ?_
    refine sv (v := .int .i64 0) rfl rfl rfl (e_assign rfl) ?_
    refine sv (v := .int .i64 1) rfl rfl rfl (e_assign rfl) ?_
    refine k_nil ?_
    refine k_ret ?_
    refine q_ret ?_
    obtain rfl := id H
    exact k_end rfl (.tmp rfl rfl (.tmp rfl rfl (.tmp rfl rfl (.tmp rfl rfl (.tmp rfl rfl (.tmp rfl rfl .nil)))))) rfl ⟨rfl, (hp0).aft⟩
  have H := iff_ h_4 H
  refine k_seq ?_
  refine k_region ?_
  refine sv (v := .bool (decide (a0 = 5))) rfl rfl rfl (e_bin (tm rfl rfl) rfl (r_eql rfl)) ?_
  refine sv (v := .bool (decide (a0 = 5))) rfl rfl rfl (e_assign (tm rfl rfl)) ?_
  refine k_nil ?_
  refine k_if (tm rfl rfl) (fun h_5 => ?_) (fun h_5 => ?_)
  · have H := ift h_5 H
    refine k_seq ?_
    refine k_region ?_
    refine sv (v := .bool true) rfl rfl rfl (e_assign rfl) ?_
    refine sv (v := .bool true) rfl rfl rfl (e_assign rfl) ?_
    refine sv (v := .bool false) rfl rfl rfl (e_assign rfl) ?_
    refine sv (v := .int .i64 (-32768)) rfl rfl rfl (e_assign rfl) ?_
    refine sv (v := .int .i64 32764) rfl rfl rfl (e_assign rfl) ?_
    refine sv (v := .int .i64 4) rfl rfl rfl (e_assign rfl) ?_
    refine k_nil ?_
    refine k_ret ?_
    refine q_ret ?_
    obtain rfl := id H
    exact k_end rfl (.tmp rfl rfl (.tmp rfl rfl (.tmp rfl rfl (.tmp rfl rfl (.tmp rfl rfl (.tmp rfl rfl .nil)))))) rfl ⟨rfl, (hp0).aft⟩
  have H := iff_ h_5 H
  refine k_seq ?_
  refine k_region ?_
  refine sv (v := .bool (decide (a0 = 6))) rfl rfl rfl (e_bin (tm rfl rfl) rfl (r_eql rfl)) ?_
  refine sv (v := .bool (decide (a0 = 6))) rfl rfl rfl (e_assign (tm rfl rfl)) ?_
  refine k_nil ?_
  refine k_if (tm rfl rfl) (fun h_6 => ?_) (fun h_6 => ?_)
  · have H := ift h_6 H
    refine k_seq ?_
    refine k_region ?_
    refine sv (v := .bool false) rfl rfl rfl (e_assign rfl) ?_
    refine sv (v := .bool true) rfl rfl rfl (e_assign rfl) ?_
    refine sv (v := .bool true) rfl rfl rfl (e_assign rfl) ?_
    refine sv (v := .int .i64 0) rfl rfl rfl (e_assign rfl) ?_
    refine sv (v := .int .i64 0) rfl rfl rfl (e_assign rfl) ?_
    refine sv (v := .int .i64 1) rfl rfl rfl (e_assign rfl) ?_
    refine k_nil ?_
    refine k_ret ?_
    refine q_ret ?_
    obtain rfl := id H
    exact k_end rfl (.tmp rfl rfl (.tmp rfl rfl (.tmp rfl rfl (.tmp rfl rfl (.tmp rfl rfl (.tmp rfl rfl .nil)))))) rfl ⟨rfl, (hp0).aft⟩
  have H := iff_ h_6 H
  refine k_seq ?_
  refine k_region ?_
  refine sv (v := .bool (decide (a0 = 7))) rfl rfl rfl (e_bin (tm rfl rfl) rfl (r_eql rfl)) ?_
  refine sv (v := .bool (decide (a0 = 7))) rfl rfl rfl (e_assign (tm rfl rfl)) ?_
  refine k_nil ?_
  refine k_if (tm rfl rfl) (fun h_7 => ?_) (fun h_7 => ?_)
  · have H := ift h_7 H
    refine k_seq ?_
    refine k_region ?_
    refine sv (v := .bool false) rfl rfl rfl (e_assign rfl) ?_
    refine sv (v := .bool true) rfl rfl rfl (e_assign rfl) ?_
    refine sv (v := .bool false) rfl rfl rfl (e_assign rfl) ?_
    refine sv (v := .int .i64 (-32768)) rfl rfl rfl (e_assign rfl) ?_
    refine sv (v := .int .i64 32767) rfl rfl rfl (e_assign rfl) ?_
    refine sv (v := .int .i64 1) rfl rfl rfl (e_assign rfl) ?_
    refine k_nil ?_
    refine k_ret ?_
    refine q_ret ?_
    obtain rfl := id H
    exact k_end rfl (.tmp rfl rfl (.tmp rfl rfl (.tmp rfl rfl (.tmp rfl rfl (.tmp rfl rfl (.tmp rfl rfl .nil)))))) rfl ⟨rfl, (hp0).aft⟩
  have H := iff_ h_7 H
  refine k_seq ?_
  refine k_region ?_
  refine sv (v := .bool (decide (a0 = 8))) rfl rfl rfl (e_bin (tm rfl rfl) rfl (r_eql rfl)) ?_
  refine sv (v := .bool (decide (a0 = 8))) rfl rfl rfl (e_assign (tm rfl rfl)) ?_
  refine k_nil ?_
  refine k_if (tm rfl rfl) (fun h_8 => ?_) (fun h_8 => ?_)
  · have H := ift h_8 H
    refine k_seq ?_
    refine k_region ?_
    refine sv (v := .bool true) rfl rfl rfl (e_assign rfl) ?_
    refine sv (v := .bool false) rfl rfl rfl (e_assign rfl) ?_
    refine sv (v := .bool false) rfl rfl rfl (e_assign rfl) ?_
    refine sv (v := .int .i64 (-32768)) rfl rfl rfl (e_assign rfl) ?_
    refine sv (v := .int .i64 32764) rfl rfl rfl (e_assign rfl) ?_
    refine sv (v := .int .i64 4) rfl rfl rfl (e_assign rfl) ?_
    refine k_nil ?_
    refine k_ret ?_
    refine q_ret ?_
    obtain rfl := id H
    exact k_end rfl (.tmp rfl rfl (.tmp rfl rfl (.tmp rfl rfl (.tmp rfl rfl (.tmp rfl rfl (.tmp rfl rfl .nil)))))) rfl ⟨rfl, (hp0).aft⟩
  have H := iff_ h_8 H
  refine k_seq ?_
  refine k_region ?_
  refine sv (v := .bool (decide (a0 = 9))) rfl rfl rfl (e_bin (tm rfl rfl) rfl (r_eql rfl)) ?_
  refine sv (v := .bool (decide (a0 = 9))) rfl rfl rfl (e_assign (tm rfl rfl)) ?_
  refine k_nil ?_
  refine k_if (tm rfl rfl) (fun h_9 => ?_) (fun h_9 => ?_)
  · have H := ift h_9 H
    refine k_seq ?_
    refine k_region ?_
    refine sv (v := .bool false) rfl rfl rfl (e_assign rfl) ?_
    refine sv (v := .bool false) rfl rfl rfl (e_assign rfl) ?_
    refine sv (v := .bool false) rfl rfl rfl (e_assign rfl) ?_
    refine sv (v := .int .i64 (-33554432)) rfl rfl rfl (e_assign rfl) ?_
    refine sv (v := .int .i64 33554428) rfl rfl rfl (e_assign rfl) ?_
    refine sv (v := .int .i64 4) rfl rfl rfl (e_assign rfl) ?_
    refine k_nil ?_
    refine k_ret ?_
    refine q_ret ?_
    obtain rfl := id H
    exact k_end rfl (.tmp rfl rfl (.tmp rfl rfl (.tmp rfl rfl (.tmp rfl rfl (.tmp rfl rfl (.tmp rfl rfl .nil)))))) rfl ⟨rfl, (hp0).aft⟩
  have H := iff_ h_9 H
  refine k_skip ?_
  refine k_seq ?_
  refine k_region ?_
  refine sv (v := .bool false) rfl rfl rfl (e_assign rfl) ?_
  refine sv (v := .bool false) rfl rfl rfl (e_assign rfl) ?_
  refine sv (v := .bool false) rfl rfl rfl (e_assign rfl) ?_
  refine sv (v := .int .i64 0) rfl rfl rfl (e_assign rfl) ?_
  refine sv (v := .int .i64 0) rfl rfl rfl (e_assign rfl) ?_
  refine sv (v := .int .i64 1) rfl rfl rfl (e_assign rfl) ?_
  refine k_nil ?_
  refine k_ret ?_
  obtain rfl := id H
  exact k_end rfl (.tmp rfl rfl (.tmp rfl rfl (.tmp rfl rfl (.tmp rfl rfl (.tmp rfl rfl (.tmp rfl rfl .nil)))))) rfl ⟨rfl, (hp0).aft⟩

end Go.Proofs.Ytcnchjlomcafeaa.W

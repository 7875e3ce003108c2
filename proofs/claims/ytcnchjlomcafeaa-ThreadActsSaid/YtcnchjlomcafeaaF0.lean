/- Functions of the program as plain Lean functions, and that the calls do what they say: written by w2.py. -/
import Derived.Test.YtcnchjlomcafeaaDefer
import Derived.Test.YtcnchjlomcafeaaTy
set_option linter.unusedVariables false
set_option linter.unusedSimpArgs false
set_option linter.unusedSectionVars false
namespace Go.Proofs.Ytcnchjlomcafeaa.W
open Go Go.RowKit Go.Proofs.Ytcnchjlomcafeaa.B
attribute [local irreducible] Go.wpList Go.Code.wp Go.Region.wanted Go.yielded
/-! ### selvage/isa.formOf: function 31 -/
def isa_formOf.m (a0 : Int) : Int × Int :=
  if (decide (a0 = 1)) = true then ((1, 939524096)) else (if (decide (a0 = 2)) = true then ((1, 1006632960)) else (if (decide (a0 = 3)) = true then ((2, 1610612736)) else (if (decide (a0 = 4)) = true then ((2, 1677721600)) else (if (decide (a0 = 5)) = true then ((3, 2013265924)) else (if (decide (a0 = 6)) = true then ((4, 2080375316)) else (if (decide (a0 = 7)) = true then ((4, 2080374864)) else (if (decide (a0 = 8)) = true then ((4, 2080375250)) else (if (decide (a0 = 9)) = true then ((4, 2080375762)) else (if (decide (a0 = 12)) = true then ((4, 2080374826)) else (if (decide (a0 = 13)) = true then ((4, 2080375082)) else (if (decide (a0 = 14)) = true then ((4, 2080374952)) else (if (decide (a0 = 15)) = true then ((4, 2080375213)) else (if (decide (a0 = 10)) = true then ((5, 3892314112)) else (if (decide (a0 = 11)) = true then ((5, 4160749568)) else (if (decide (a0 = 16)) = true then ((6, 2082471936)) else (if (decide (a0 = 17)) = true then ((7, 740294656)) else (if (decide (a0 = 18)) = true then ((8, 1073741824)) else (if (decide (a0 = 19)) = true then ((9, 1207959552)) else (if (decide (a0 = 20)) = true then ((10, 2080375980)) else (if (decide (a0 = 21)) = true then ((10, 2082473132)) else (if (decide (a0 = 22)) = true then ((10, 1275068716)) else (if (decide (a0 = 23)) = true then ((10, 1140850690)) else ((0, 0))))))))))))))))))))))))
set_option maxHeartbeats 4000000 in
set_option maxRecDepth 100000 in
theorem isa_formOf.calls (a0 : Int) (w : World) :
    Ret Try.prog 31 [.int .i64 a0] w fun v w' => v = .tuple #[.int .i64 ((isa_formOf.m a0).1), .int .u32 ((isa_formOf.m a0).2)] ∧ Aft w w' [] [] := by
  obtain ⟨r, H⟩ : ∃ r, isa_formOf.m a0 = r := ⟨_, rfl⟩
  rw [H]
  unfold isa_formOf.m at H
  have hp0 := Hp.startR (F := no) (R := []) (Have.nil w) (fun _ h => h.elim)
  have ep0 := Ep.refl no [] w
  refine enter (L := [(0, .int .i64 a0)]) Try.func31 rfl Try.ntmps31 rfl rfl ?_
  refine k_seq ?_
  refine k_region ?_
  refine sv (v := .int .i64 0) rfl rfl rfl (e_assign rfl) ?_
  refine sv (v := .int .u32 0) rfl rfl rfl (e_assign rfl) ?_
  refine k_nil ?_
  refine k_seq ?_
  refine k_seq ?_
  refine k_region ?_
  refine sv (v := .int .i64 a0) rfl rfl rfl (e_move (tm rfl rfl)) ?_
  refine k_nil ?_
  refine k_block ?_
  refine k_seq ?_
  refine k_region ?_
  refine sv (v := .bool (decide (a0 = 1))) rfl rfl rfl (e_bin (tm rfl rfl) rfl (r_eql rfl)) ?_
  refine sv (v := .bool (decide (a0 = 1))) rfl rfl rfl (e_assign (tm rfl rfl)) ?_
  refine k_nil ?_
  refine k_if (tm rfl rfl) (fun h_1 => ?_) (fun h_1 => ?_)
  · have H := ift h_1 H
    refine k_seq ?_
    refine k_region ?_
    refine sv (v := .int .i64 1) rfl rfl rfl (e_assign rfl) ?_
    refine sv (v := .int .u32 939524096) rfl rfl rfl (e_assign rfl) ?_
    refine k_nil ?_
    refine k_ret ?_
    refine q_ret ?_
    obtain rfl := id H
    exact k_end rfl (.tmp rfl rfl (.tmp rfl rfl .nil)) rfl ⟨rfl, (hp0).aft⟩
  have H := iff_ h_1 H
  refine k_seq ?_
  refine k_region ?_
  refine sv (v := .bool (decide (a0 = 2))) rfl rfl rfl (e_bin (tm rfl rfl) rfl (r_eql rfl)) ?_
  refine sv (v := .bool (decide (a0 = 2))) rfl rfl rfl (e_assign (tm rfl rfl)) ?_
  refine k_nil ?_
  refine k_if (tm rfl rfl) (fun h_2 => ?_) (fun h_2 => ?_)
  · have H := ift h_2 H
    refine k_seq ?_
    refine k_region ?_
    refine sv (v := .int .i64 1) rfl rfl rfl (e_assign rfl) ?_
    refine sv (v := .int .u32 1006632960) rfl rfl rfl (e_assign rfl) ?_
    refine k_nil ?_
    refine k_ret ?_
    refine q_ret ?_
    obtain rfl := id H
    exact k_end rfl (.tmp rfl rfl (.tmp rfl rfl .nil)) rfl ⟨rfl, (hp0).aft⟩
  have H := iff_ h_2 H
  refine k_seq ?_
  refine k_region ?_
  refine sv (v := .bool (decide (a0 = 3))) rfl rfl rfl (e_bin (tm rfl rfl) rfl (r_eql rfl)) ?_
  refine sv (v := .bool (decide (a0 = 3))) rfl rfl rfl (e_assign (tm rfl rfl)) ?_
  refine k_nil ?_
  refine k_if (tm rfl rfl) (fun h_3 => ?_) (fun h_3 => ?_)
  · have H := ift h_3 H
    refine k_seq ?_
    refine k_region ?_
    refine sv (v := .int .i64 2) rfl rfl rfl (e_assign rfl) ?_
    refine sv (v := .int .u32 1610612736) rfl rfl rfl (e_assign rfl) ?_
    refine k_nil ?_
    refine k_ret ?_
    refine q_ret ?_
    obtain rfl := id H
    exact k_end rfl (.tmp rfl rfl (.tmp rfl rfl .nil)) rfl ⟨rfl, (hp0).aft⟩
  have H := iff_ h_3 H
  refine k_seq ?_
  refine k_region ?_
  refine sv (v := .bool (decide (a0 = 4))) rfl rfl rfl (e_bin (tm rfl rfl) rfl (r_eql rfl)) ?_
  refine sv (v := .bool (decide (a0 = 4))) rfl rfl rfl (e_assign (tm rfl rfl)) ?_
  refine k_nil ?_
  refine k_if (tm rfl rfl) (fun h_4 => ?_) (fun h_4 => ?_)
  · have H := ift h_4 H
    refine k_seq ?_
    refine k_region ?_
    refine sv (v := .int .i64 2) rfl rfl rfl (e_assign rfl) ?_
    refine sv (v := .int .u32 1677721600) rfl rfl rfl (e_assign rfl) ?_
    refine k_nil ?_
    refine k_ret ?_
    refine q_ret ?_
    obtain rfl := id H
    exact k_end rfl (.tmp rfl rfl (.tmp rfl rfl .nil)) rfl ⟨rfl, (hp0).aft⟩
  have H := iff_ h_4 H
  refine k_seq ?_
  refine k_region ?_
  refine sv (v := .bool (decide (a0 = 5))) rfl rfl rfl (e_bin (tm rfl rfl) rfl (r_eql rfl)) ?_
  refine sv (v := .bool (decide (a0 = 5))) rfl rfl rfl (e_assign (tm rfl rfl)) ?_
  refine k_nil ?_
  refine k_if (tm rfl rfl) (fun h_5 => ?_) (fun h_5 => ?_)
  · have H := ift h_5 H
    refine k_seq ?_
    refine k_region ?_
    refine sv (v := .int .i64 3) rfl rfl rfl (e_assign rfl) ?_
    refine sv (v := .int .u32 2013265924) rfl rfl rfl (e_assign rfl) ?_
    refine k_nil ?_
    refine k_ret ?_
    refine q_ret ?_
    obtain rfl := id H
    exact k_end rfl (.tmp rfl rfl (.tmp rfl rfl .nil)) rfl ⟨rfl, (hp0).aft⟩
  have H := iff_ h_5 H
  refine k_seq ?_
  refine k_region ?_
  refine sv (v := .bool (decide (a0 = 6))) rfl rfl rfl (e_bin (tm rfl rfl) rfl (r_eql rfl)) ?_
  refine sv (v := .bool (decide (a0 = 6))) rfl rfl rfl (e_assign (tm rfl rfl)) ?_
  refine k_nil ?_
  refine k_if (tm rfl rfl) (fun h_6 => ?_) (fun h_6 => ?_)
  · have H := ift h_6 H
    refine k_seq ?_
    refine k_region ?_
    refine sv (v := .int .i64 4) rfl rfl rfl (e_assign rfl) ?_
    refine sv (v := .int .u32 2080375316) rfl rfl rfl (e_assign rfl) ?_
    refine k_nil ?_
    refine k_ret ?_
    refine q_ret ?_
    obtain rfl := id H
    exact k_end rfl (.tmp rfl rfl (.tmp rfl rfl .nil)) rfl ⟨rfl, (hp0).aft⟩
  have H := iff_ h_6 H
  refine k_seq ?_
  refine k_region ?_
  refine sv (v := .bool (decide (a0 = 7))) rfl rfl rfl (e_bin (tm rfl rfl) rfl (r_eql rfl)) ?_
  refine sv (v := .bool (decide (a0 = 7))) rfl rfl rfl (e_assign (tm rfl rfl)) ?_
  refine k_nil ?_
  refine k_if (tm rfl rfl) (fun h_7 => ?_) (fun h_7 => ?_)
  · have H := ift h_7 H
    refine k_seq ?_
    refine k_region ?_
    refine sv (v := .int .i64 4) rfl rfl rfl (e_assign rfl) ?_
    refine sv (v := .int .u32 2080374864) rfl rfl rfl (e_assign rfl) ?_
    refine k_nil ?_
    refine k_ret ?_
    refine q_ret ?_
    obtain rfl := id H
    exact k_end rfl (.tmp rfl rfl (.tmp rfl rfl .nil)) rfl ⟨rfl, (hp0).aft⟩
  have H := iff_ h_7 H
  refine k_seq ?_
  refine k_region ?_
  refine sv (v := .bool (decide (a0 = 8))) rfl rfl rfl (e_bin (tm rfl rfl) rfl (r_eql rfl)) ?_
  refine sv (v := .bool (decide (a0 = 8))) rfl rfl rfl (e_assign (tm rfl rfl)) ?_
  refine k_nil ?_
  refine k_if (tm rfl rfl) (fun h_8 => ?_) (fun h_8 => ?_)
  · have H := ift h_8 H
    refine k_seq ?_
    refine k_region ?_
    refine sv (v := .int .i64 4) rfl rfl rfl (e_assign rfl) ?_
    refine sv (v := .int .u32 2080375250) rfl rfl rfl (e_assign rfl) ?_
    refine k_nil ?_
    refine k_ret ?_
    refine q_ret ?_
    obtain rfl := id H
    exact k_end rfl (.tmp rfl rfl (.tmp rfl rfl .nil)) rfl ⟨rfl, (hp0).aft⟩
  have H := iff_ h_8 H
  refine k_seq ?_
  refine k_region ?_
  refine sv (v := .bool (decide (a0 = 9))) rfl rfl rfl (e_bin (tm rfl rfl) rfl (r_eql rfl)) ?_
  refine sv (v := .bool (decide (a0 = 9))) rfl rfl rfl (e_assign (tm rfl rfl)) ?_
  refine k_nil ?_
  refine k_if (tm rfl rfl) (fun h_9 => ?_) (fun h_9 => ?_)
  · have H := ift h_9 H
    refine k_seq ?_
    refine k_region ?_
    refine sv (v := .int .i64 4) rfl rfl rfl (e_assign rfl) ?_
    refine sv (v := .int .u32 2080375762) rfl rfl rfl (e_assign rfl) ?_
    refine k_nil ?_
    refine k_ret ?_
    refine q_ret ?_
    obtain rfl := id H
    exact k_end rfl (.tmp rfl rfl (.tmp rfl rfl .nil)) rfl ⟨rfl, (hp0).aft⟩
  have H := iff_ h_9 H
  refine k_seq ?_
  refine k_region ?_
  refine sv (v := .bool (decide (a0 = 12))) rfl rfl rfl (e_bin (tm rfl rfl) rfl (r_eql rfl)) ?_
  refine sv (v := .bool (decide (a0 = 12))) rfl rfl rfl (e_assign (tm rfl rfl)) ?_
  refine k_nil ?_
  refine k_if (tm rfl rfl) (fun h_10 => ?_) (fun h_10 => ?_)
  · have H := ift h_10 H
    refine k_seq ?_
    refine k_region ?_
    refine sv (v := .int .i64 4) rfl rfl rfl (e_assign rfl) ?_
    refine sv (v := .int .u32 2080374826) rfl rfl rfl (e_assign rfl) ?_
    refine k_nil ?_
    refine k_ret ?_
    refine q_ret ?_
    obtain rfl := id H
    exact k_end rfl (.tmp rfl rfl (.tmp rfl rfl .nil)) rfl ⟨rfl, (hp0).aft⟩
  have H := iff_ h_10 H
  refine k_seq ?_
  refine k_region ?_
  refine sv (v := .bool (decide (a0 = 13))) rfl rfl rfl (e_bin (tm rfl rfl) rfl (r_eql rfl)) ?_
  refine sv (v := .bool (decide (a0 = 13))) rfl rfl rfl (e_assign (tm rfl rfl)) ?_
  refine k_nil ?_
  refine k_if (tm rfl rfl) (fun h_11 => ?_) (fun h_11 => ?_)
  · have H := ift h_11 H
    refine k_seq ?_
    refine k_region ?_
    refine sv (v := .int .i64 4) rfl rfl rfl (e_assign rfl) ?_
    refine sv (v := .int .u32 2080375082) rfl rfl rfl (e_assign rfl) ?_
    refine k_nil ?_
    refine k_ret ?_
    refine q_ret ?_
    obtain rfl := id H
    exact k_end rfl (.tmp rfl rfl (.tmp rfl rfl .nil)) rfl ⟨rfl, (hp0).aft⟩
  have H := iff_ h_11 H
  refine k_seq ?_
  refine k_region ?_
  refine sv (v := .bool (decide (a0 = 14))) rfl rfl rfl (e_bin (tm rfl rfl) rfl (r_eql rfl)) ?_
  refine sv (v := .bool (decide (a0 = 14))) rfl rfl rfl (e_assign (tm rfl rfl)) ?_
  refine k_nil ?_
  refine k_if (tm rfl rfl) (fun h_12 => ?_) (fun h_12 => ?_)
  · have H := ift h_12 H
    refine k_seq ?_
    refine k_region ?_
    refine sv (v := .int .i64 4) rfl rfl rfl (e_assign rfl) ?_
    refine sv (v := .int .u32 2080374952) rfl rfl rfl (e_assign rfl) ?_
    refine k_nil ?_
    refine k_ret ?_
    refine q_ret ?_
    obtain rfl := id H
    exact k_end rfl (.tmp rfl rfl (.tmp rfl rfl .nil)) rfl ⟨rfl, (hp0).aft⟩
  have H := iff_ h_12 H
  refine k_seq ?_
  refine k_region ?_
  refine sv (v := .bool (decide (a0 = 15))) rfl rfl rfl (e_bin (tm rfl rfl) rfl (r_eql rfl)) ?_
  refine sv (v := .bool (decide (a0 = 15))) rfl rfl rfl (e_assign (tm rfl rfl)) ?_
  refine k_nil ?_
  refine k_if (tm rfl rfl) (fun h_13 => ?_) (fun h_13 => ?_)
  · have H := ift h_13 H
    refine k_seq ?_
    refine k_region ?_
    refine sv (v := .int .i64 4) rfl rfl rfl (e_assign rfl) ?_
    refine sv (v := .int .u32 2080375213) rfl rfl rfl (e_assign rfl) ?_
    refine k_nil ?_
    refine k_ret ?_
    refine q_ret ?_
    obtain rfl := id H
    exact k_end rfl (.tmp rfl rfl (.tmp rfl rfl .nil)) rfl ⟨rfl, (hp0).aft⟩
  have H := iff_ h_13 H
  refine k_seq ?_
  refine k_region ?_
  refine sv (v := .bool (decide (a0 = 10))) rfl rfl rfl (e_bin (tm rfl rfl) rfl (r_eql rfl)) ?_
  refine sv (v := .bool (decide (a0 = 10))) rfl rfl rfl (e_assign (tm rfl rfl)) ?_
  refine k_nil ?_
  refine k_if (tm rfl rfl) (fun h_14 => ?_) (fun h_14 => ?_)
  · have H := ift h_14 H
    refine k_seq ?_
    refine k_region ?_
    refine sv (v := .int .i64 5) rfl rfl rfl (e_assign rfl) ?_
    refine sv (v := .int .u32 3892314112) rfl rfl rfl (e_assign rfl) ?_
    refine k_nil ?_
    refine k_ret ?_
    refine q_ret ?_
    obtain rfl := id H
    exact k_end rfl (.tmp rfl rfl (.tmp rfl rfl .nil)) rfl ⟨rfl, (hp0).aft⟩
  have H := iff_ h_14 H
  refine k_seq ?_
  refine k_region ?_
  refine sv (v := .bool (decide (a0 = 11))) rfl rfl rfl (e_bin (tm rfl rfl) rfl (r_eql rfl)) ?_
  refine sv (v := .bool (decide (a0 = 11))) rfl rfl rfl (e_assign (tm rfl rfl)) ?_
  refine k_nil ?_
  refine k_if (tm rfl rfl) (fun h_15 => ?_) (fun h_15 => ?_)
  · have H := ift h_15 H
    refine k_seq ?_
    refine k_region ?_
    refine sv (v := .int .i64 5) rfl rfl rfl (e_assign rfl) ?_
    refine sv (v := .int .u32 4160749568) rfl rfl rfl (e_assign rfl) ?_
    refine k_nil ?_
    refine k_ret ?_
    refine q_ret ?_
    obtain rfl := id H
    exact k_end rfl (.tmp rfl rfl (.tmp rfl rfl .nil)) rfl ⟨rfl, (hp0).aft⟩
  have H := iff_ h_15 H
  refine k_seq ?_
  refine k_region ?_
  refine sv (v := .bool (decide (a0 = 16))) rfl rfl rfl (e_bin (tm rfl rfl) rfl (r_eql rfl)) ?_
  refine sv (v := .bool (decide (a0 = 16))) rfl rfl rfl (e_assign (tm rfl rfl)) ?_
  refine k_nil ?_
  refine k_if (tm rfl rfl) (fun h_16 => ?_) (fun h_16 => ?_)
  · have H := ift h_16 H
    refine k_seq ?_
    refine k_region ?_
    refine sv (v := .int .i64 6) rfl rfl rfl (e_assign rfl) ?_
    refine sv (v := .int .u32 2082471936) rfl rfl rfl (e_assign rfl) ?_
    refine k_nil ?_
    refine k_ret ?_
    refine q_ret ?_
    obtain rfl := id H
    exact k_end rfl (.tmp rfl rfl (.tmp rfl rfl .nil)) rfl ⟨rfl, (hp0).aft⟩
  have H := iff_ h_16 H
  refine k_seq ?_
  refine k_region ?_
  refine sv (v := .bool (decide (a0 = 17))) rfl rfl rfl (e_bin (tm rfl rfl) rfl (r_eql rfl)) ?_
  refine sv (v := .bool (decide (a0 = 17))) rfl rfl rfl (e_assign (tm rfl rfl)) ?_
  refine k_nil ?_
  refine k_if (tm rfl rfl) (fun h_17 => ?_) (fun h_17 => ?_)
  · have H := ift h_17 H
    refine k_seq ?_
    refine k_region ?_
    refine sv (v := .int .i64 7) rfl rfl rfl (e_assign rfl) ?_
    refine sv (v := .int .u32 740294656) rfl rfl rfl (e_assign rfl) ?_
    refine k_nil ?_
    refine k_ret ?_
    refine q_ret ?_
    obtain rfl := id H
    exact k_end rfl (.tmp rfl rfl (.tmp rfl rfl .nil)) rfl ⟨rfl, (hp0).aft⟩
  have H := iff_ h_17 H
  refine k_seq ?_
  refine k_region ?_
  refine sv (v := .bool (decide (a0 = 18))) rfl rfl rfl (e_bin (tm rfl rfl) rfl (r_eql rfl)) ?_
  refine sv (v := .bool (decide (a0 = 18))) rfl rfl rfl (e_assign (tm rfl rfl)) ?_
  refine k_nil ?_
  refine k_if (tm rfl rfl) (fun h_18 => ?_) (fun h_18 => ?_)
  · have H := ift h_18 H
    refine k_seq ?_
    refine k_region ?_
    refine sv (v := .int .i64 8) rfl rfl rfl (e_assign rfl) ?_
    refine sv (v := .int .u32 1073741824) rfl rfl rfl (e_assign rfl) ?_
    refine k_nil ?_
    refine k_ret ?_
    refine q_ret ?_
    obtain rfl := id H
    exact k_end rfl (.tmp rfl rfl (.tmp rfl rfl .nil)) rfl ⟨rfl, (hp0).aft⟩
  have H := iff_ h_18 H
  refine k_seq ?_
  refine k_region ?_
  refine sv (v := .bool (decide (a0 = 19))) rfl rfl rfl (e_bin (tm rfl rfl) rfl (r_eql rfl)) ?_
  refine sv (v := .bool (decide (a0 = 19))) rfl rfl rfl (e_assign (tm rfl rfl)) ?_
  refine k_nil ?_
  refine k_if (tm rfl rfl) (fun h_19 => ?_) (fun h_19 => ?_)
  · have H := ift h_19 H
    refine k_seq ?_
    refine k_region ?_
    refine sv (v := .int .i64 9) rfl rfl rfl (e_assign rfl) ?_
    refine sv (v := .int .u32 1207959552) rfl rfl rfl (e_assign rfl) ?_
    refine k_nil ?_
    refine k_ret ?_
    refine q_ret ?_
    obtain rfl := id H
    exact k_end rfl (.tmp rfl rfl (.tmp rfl rfl .nil)) rfl ⟨rfl, (hp0).aft⟩
  have H := iff_ h_19 H
  refine k_seq ?_
  refine k_region ?_
  refine sv (v := .bool (decide (a0 = 20))) rfl rfl rfl (e_bin (tm rfl rfl) rfl (r_eql rfl)) ?_
  refine sv (v := .bool (decide (a0 = 20))) rfl rfl rfl (e_assign (tm rfl rfl)) ?_
  refine k_nil ?_
  refine k_if (tm rfl rfl) (fun h_20 => ?_) (fun h_20 => ?_)
  · have H := ift h_20 H
    refine k_seq ?_
    refine k_region ?_
    refine sv (v := .int .i64 10) rfl rfl rfl (e_assign rfl) ?_
    refine sv (v := .int .u32 2080375980) rfl rfl rfl (e_assign rfl) ?_
    refine k_nil ?_
    refine k_ret ?_
    refine q_ret ?_
    obtain rfl := id H
    exact k_end rfl (.tmp rfl rfl (.tmp rfl rfl .nil)) rfl ⟨rfl, (hp0).aft⟩
  have H := iff_ h_20 H
  refine k_seq ?_
  refine k_region ?_
  refine sv (v := .bool (decide (a0 = 21))) rfl rfl rfl (e_bin (tm rfl rfl) rfl (r_eql rfl)) ?_
  refine sv (v := .bool (decide (a0 = 21))) rfl rfl rfl (e_assign (tm rfl rfl)) ?_
  refine k_nil ?_
  refine k_if (tm rfl rfl) (fun h_21 => ?_) (fun h_21 => ?_)
  · have H := ift h_21 H
    refine k_seq ?_
    refine k_region ?_
    refine sv (v := .int .i64 10) rfl rfl rfl (e_assign rfl) ?_
    refine sv (v := .int .u32 2082473132) rfl rfl rfl (e_assign rfl) ?_
    refine k_nil ?_
    refine k_ret ?_
    refine q_ret ?_
    obtain rfl := id H
    exact k_end rfl (.tmp rfl rfl (.tmp rfl rfl .nil)) rfl ⟨rfl, (hp0).aft⟩
  have H := iff_ h_21 H
  refine k_seq ?_
  refine k_region ?_
  refine sv (v := .bool (decide (a0 = 22))) rfl rfl rfl (e_bin (tm rfl rfl) rfl (r_eql rfl)) ?_
  refine sv (v := .bool (decide (a0 = 22))) rfl rfl rfl (e_assign (tm rfl rfl)) ?_
  refine k_nil ?_
  refine k_if (tm rfl rfl) (fun h_22 => ?_) (fun h_22 => ?_)
  · have H := ift h_22 H
    refine k_seq ?_
    refine k_region ?_
    refine sv (v := .int .i64 10) rfl rfl rfl (e_assign rfl) ?_
    refine sv (v := .int .u32 1275068716) rfl rfl rfl (e_assign rfl) ?_
    refine k_nil ?_
    refine k_ret ?_
    refine q_ret ?_
    obtain rfl := id H
    exact k_end rfl (.tmp rfl rfl (.tmp rfl rfl .nil)) rfl ⟨rfl, (hp0).aft⟩
  have H := iff_ h_22 H
  refine k_seq ?_
  refine k_region ?_
  refine sv (v := .bool (decide (a0 = 23))) rfl rfl rfl (e_bin (tm rfl rfl) rfl (r_eql rfl)) ?_
  refine sv (v := .bool (decide (a0 = 23))) rfl rfl rfl (e_assign (tm rfl rfl)) ?_
  refine k_nil ?_
  refine k_if (tm rfl rfl) (fun h_23 => ?_) (fun h_23 => ?_)
  · have H := ift h_23 H
    refine k_seq ?_
    refine k_region ?_
    refine sv (v := .int .i64 10) rfl rfl rfl (e_assign rfl) ?_
    refine sv (v := .int .u32 1140850690) rfl rfl rfl (e_assign rfl) ?_
    refine k_nil ?_
    refine k_ret ?_
    refine q_ret ?_
    obtain rfl := id H
    exact k_end rfl (.tmp rfl rfl (.tmp rfl rfl .nil)) rfl ⟨rfl, (hp0).aft⟩
  have H := iff_ h_23 H
  refine k_skip ?_
  refine k_seq ?_
  refine k_region ?_
  refine sv (v := .int .i64 0) rfl rfl rfl (e_assign rfl) ?_
  refine sv (v := .int .u32 0) rfl rfl rfl (e_assign rfl) ?_
  refine k_nil ?_
  refine k_ret ?_
  obtain rfl := id H
  exact k_end rfl (.tmp rfl rfl (.tmp rfl rfl .nil)) rfl ⟨rfl, (hp0).aft⟩

end Go.Proofs.Ytcnchjlomcafeaa.W

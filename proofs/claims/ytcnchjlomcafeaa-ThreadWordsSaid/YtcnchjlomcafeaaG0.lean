/- Functions of the program as plain Lean functions, and that the calls do what they say: written by w3.py. -/
import Derived.Test.YtcnchjlomcafeaaRun
import Derived.Test.YtcnchjlomcafeaaTy
set_option linter.unusedVariables false
set_option linter.unusedSimpArgs false
set_option linter.unusedSectionVars false
namespace Go.Proofs.Ytcnchjlomcafeaa.W
open Go Go.RowKit Go.Proofs.Ytcnchjlomcafeaa.B
attribute [local irreducible] Go.wpList Go.Code.wp Go.Region.wanted Go.yielded
/-! ### selvage/isa.formOf: function 31 -/
def isa_formOf.m (a0 : Int) : Int × Int :=
 if (decide (a0 = 1)) = true then ((1, 939524096)) else (if (decide (a0 = 2)) = true then ((1, 1006632960)) else (if (decide (a0 = 3)) = true then ((2, 1610612736)) else (if (decide (a0 = 4)) = true then ((2, 1677721600)) else (if (decide (a0 = 5)) = true then ((3, 2013265924)) else (if (decide (a0 = 6)) = true then ((4, 2080375316)) else (if (decide (a0 = 7)) = true then ((4, 2080374864)) else (if (decide (a0 = 8)) = true then ((4, 2080375250)) else (if (decide (a0 = 9)) = true then ((4, 2080375762)) else (if (decide (a0 = 12)) = true then ((4, 2080374826)) else (if (decide (a0 = 13)) = true then ((4, 2080375082)) else (if (decide (a0 = 14)) = true then ((4, 2080374952)) else (if (decide (a0 = 15)) = true then ((4, 2080375213)) else (if (decide (a0 = 10)) = true then ((5, 3892314112)) else (if (decide (a0 = 11)) = true then ((5, 4160749568)) else (if (decide (a0 = 16)) = true then ((6, 2082471936)) else (if (decide (a0 = 17)) = true then ((7, 740294656)) else (if (decide (a0 = 18)) = true then ((8, 1073741824)) else (if (decide (a0 = 19)) = true then ((9, 1207959552)) else (if (decide (a0 = 20)) = true then ((10, 2080375980)) else (if (decide (a0 = 21)) = true then ((10, 2082473132)) else (if (decide (a0 = 22)) = true then ((10, 1275068716)) else (if (decide (a0 = 23)) = true then ((10, 1140850690)) else ((0, 0))))))))))))))))))))))))
set_option maxHeartbeats 4000000 in
set_option maxRecDepth 100000 in
theorem isa_formOf.calls (a0 : Int) (w : World) :
 Ret Try.prog 31 [.int .i64 a0] w fun v w' => v = .tuple #[.int .i64 ((isa_formOf.m a0).1), .int .u32 ((isa_formOf.m a0).2)] ∧ Aft w w' [] [] := by
 obtain ⟨r, H⟩ : ∃ r, isa_formOf.m a0 = r := ⟨_, rfl⟩
 rw [H]
 unfold isa_formOf.m at H
 have hp0 := Hp.startR (F := no) (R := []) (Have.nil w) (fun _ h => h.elim)
 have ep0 := Ep.refl no [] w
 refine enter (L := [(0, .int .i64 a0)]) Try.func31 rfl Try.ntmps31 rfl rfl ?_
 refine kq tb hp0 [] [] (by kernel_rfl) fun σ => ?_
 refine k_seq ?_
 refine kq tb hp0 [] [(4, .int .i64 a0)] (by kernel_rfl) fun σ => ?_
 refine k_block ?_
 refine kq tb hp0 [] [(5, .bool (decide (a0 = 1)))] (by kernel_rfl) fun σ => ?_
 refine k_if (tm rfl rfl) (fun h_1 => ?_) (fun h_1 => ?_)
 ·have H := ift h_1 H
  refine kq tb hp0 [] [(2, .int .i64 1), (3, .int .u32 939524096)] (by kernel_rfl) fun σ => ?_
  refine k_ret ?_
  refine q_ret ?_
  obtain rfl := id H
  exact k_end rfl (.tmp rfl rfl (.tmp rfl rfl .nil)) rfl ⟨rfl, (hp0).aft⟩
 have H := iff_ h_1 H
 refine kq tb hp0 [] [(7, .bool (decide (a0 = 2)))] (by kernel_rfl) fun σ => ?_
 refine k_if (tm rfl rfl) (fun h_2 => ?_) (fun h_2 => ?_)
 ·have H := ift h_2 H
  refine kq tb hp0 [] [(2, .int .i64 1), (3, .int .u32 1006632960)] (by kernel_rfl) fun σ => ?_
  refine k_ret ?_
  refine q_ret ?_
  obtain rfl := id H
  exact k_end rfl (.tmp rfl rfl (.tmp rfl rfl .nil)) rfl ⟨rfl, (hp0).aft⟩
 have H := iff_ h_2 H
 refine kq tb hp0 [] [(9, .bool (decide (a0 = 3)))] (by kernel_rfl) fun σ => ?_
 refine k_if (tm rfl rfl) (fun h_3 => ?_) (fun h_3 => ?_)
 ·have H := ift h_3 H
  refine kq tb hp0 [] [(2, .int .i64 2), (3, .int .u32 1610612736)] (by kernel_rfl) fun σ => ?_
  refine k_ret ?_
  refine q_ret ?_
  obtain rfl := id H
  exact k_end rfl (.tmp rfl rfl (.tmp rfl rfl .nil)) rfl ⟨rfl, (hp0).aft⟩
 have H := iff_ h_3 H
 refine kq tb hp0 [] [(11, .bool (decide (a0 = 4)))] (by kernel_rfl) fun σ => ?_
 refine k_if (tm rfl rfl) (fun h_4 => ?_) (fun h_4 => ?_)
 ·have H := ift h_4 H
  refine kq tb hp0 [] [(2, .int .i64 2), (3, .int .u32 1677721600)] (by kernel_rfl) fun σ => ?_
  refine k_ret ?_
  refine q_ret ?_
  obtain rfl := id H
  exact k_end rfl (.tmp rfl rfl (.tmp rfl rfl .nil)) rfl ⟨rfl, (hp0).aft⟩
 have H := iff_ h_4 H
 refine kq tb hp0 [] [(13, .bool (decide (a0 = 5)))] (by kernel_rfl) fun σ => ?_
 refine k_if (tm rfl rfl) (fun h_5 => ?_) (fun h_5 => ?_)
 ·have H := ift h_5 H
  refine kq tb hp0 [] [(2, .int .i64 3), (3, .int .u32 2013265924)] (by kernel_rfl) fun σ => ?_
  refine k_ret ?_
  refine q_ret ?_
  obtain rfl := id H
  exact k_end rfl (.tmp rfl rfl (.tmp rfl rfl .nil)) rfl ⟨rfl, (hp0).aft⟩
 have H := iff_ h_5 H
 refine kq tb hp0 [] [(15, .bool (decide (a0 = 6)))] (by kernel_rfl) fun σ => ?_
 refine k_if (tm rfl rfl) (fun h_6 => ?_) (fun h_6 => ?_)
 ·have H := ift h_6 H
  refine kq tb hp0 [] [(2, .int .i64 4), (3, .int .u32 2080375316)] (by kernel_rfl) fun σ => ?_
  refine k_ret ?_
  refine q_ret ?_
  obtain rfl := id H
  exact k_end rfl (.tmp rfl rfl (.tmp rfl rfl .nil)) rfl ⟨rfl, (hp0).aft⟩
 have H := iff_ h_6 H
 refine kq tb hp0 [] [(17, .bool (decide (a0 = 7)))] (by kernel_rfl) fun σ => ?_
 refine k_if (tm rfl rfl) (fun h_7 => ?_) (fun h_7 => ?_)
 ·have H := ift h_7 H
  refine kq tb hp0 [] [(2, .int .i64 4), (3, .int .u32 2080374864)] (by kernel_rfl) fun σ => ?_
  refine k_ret ?_
  refine q_ret ?_
  obtain rfl := id H
  exact k_end rfl (.tmp rfl rfl (.tmp rfl rfl .nil)) rfl ⟨rfl, (hp0).aft⟩
 have H := iff_ h_7 H
 refine kq tb hp0 [] [(19, .bool (decide (a0 = 8)))] (by kernel_rfl) fun σ => ?_
 refine k_if (tm rfl rfl) (fun h_8 => ?_) (fun h_8 => ?_)
 ·have H := ift h_8 H
  refine kq tb hp0 [] [(2, .int .i64 4), (3, .int .u32 2080375250)] (by kernel_rfl) fun σ => ?_
  refine k_ret ?_
  refine q_ret ?_
  obtain rfl := id H
  exact k_end rfl (.tmp rfl rfl (.tmp rfl rfl .nil)) rfl ⟨rfl, (hp0).aft⟩
 have H := iff_ h_8 H
 refine kq tb hp0 [] [(21, .bool (decide (a0 = 9)))] (by kernel_rfl) fun σ => ?_
 refine k_if (tm rfl rfl) (fun h_9 => ?_) (fun h_9 => ?_)
 ·have H := ift h_9 H
  refine kq tb hp0 [] [(2, .int .i64 4), (3, .int .u32 2080375762)] (by kernel_rfl) fun σ => ?_
  refine k_ret ?_
  refine q_ret ?_
  obtain rfl := id H
  exact k_end rfl (.tmp rfl rfl (.tmp rfl rfl .nil)) rfl ⟨rfl, (hp0).aft⟩
 have H := iff_ h_9 H
 refine kq tb hp0 [] [(23, .bool (decide (a0 = 12)))] (by kernel_rfl) fun σ => ?_
 refine k_if (tm rfl rfl) (fun h_10 => ?_) (fun h_10 => ?_)
 ·have H := ift h_10 H
  refine kq tb hp0 [] [(2, .int .i64 4), (3, .int .u32 2080374826)] (by kernel_rfl) fun σ => ?_
  refine k_ret ?_
  refine q_ret ?_
  obtain rfl := id H
  exact k_end rfl (.tmp rfl rfl (.tmp rfl rfl .nil)) rfl ⟨rfl, (hp0).aft⟩
 have H := iff_ h_10 H
 refine kq tb hp0 [] [(25, .bool (decide (a0 = 13)))] (by kernel_rfl) fun σ => ?_
 refine k_if (tm rfl rfl) (fun h_11 => ?_) (fun h_11 => ?_)
 ·have H := ift h_11 H
  refine kq tb hp0 [] [(2, .int .i64 4), (3, .int .u32 2080375082)] (by kernel_rfl) fun σ => ?_
  refine k_ret ?_
  refine q_ret ?_
  obtain rfl := id H
  exact k_end rfl (.tmp rfl rfl (.tmp rfl rfl .nil)) rfl ⟨rfl, (hp0).aft⟩
 have H := iff_ h_11 H
 refine kq tb hp0 [] [(27, .bool (decide (a0 = 14)))] (by kernel_rfl) fun σ => ?_
 refine k_if (tm rfl rfl) (fun h_12 => ?_) (fun h_12 => ?_)
 ·have H := ift h_12 H
  refine kq tb hp0 [] [(2, .int .i64 4), (3, .int .u32 2080374952)] (by kernel_rfl) fun σ => ?_
  refine k_ret ?_
  refine q_ret ?_
  obtain rfl := id H
  exact k_end rfl (.tmp rfl rfl (.tmp rfl rfl .nil)) rfl ⟨rfl, (hp0).aft⟩
 have H := iff_ h_12 H
 refine kq tb hp0 [] [(29, .bool (decide (a0 = 15)))] (by kernel_rfl) fun σ => ?_
 refine k_if (tm rfl rfl) (fun h_13 => ?_) (fun h_13 => ?_)
 ·have H := ift h_13 H
  refine kq tb hp0 [] [(2, .int .i64 4), (3, .int .u32 2080375213)] (by kernel_rfl) fun σ => ?_
  refine k_ret ?_
  refine q_ret ?_
  obtain rfl := id H
  exact k_end rfl (.tmp rfl rfl (.tmp rfl rfl .nil)) rfl ⟨rfl, (hp0).aft⟩
 have H := iff_ h_13 H
 refine kq tb hp0 [] [(31, .bool (decide (a0 = 10)))] (by kernel_rfl) fun σ => ?_
 refine k_if (tm rfl rfl) (fun h_14 => ?_) (fun h_14 => ?_)
 ·have H := ift h_14 H
  refine kq tb hp0 [] [(2, .int .i64 5), (3, .int .u32 3892314112)] (by kernel_rfl) fun σ => ?_
  refine k_ret ?_
  refine q_ret ?_
  obtain rfl := id H
  exact k_end rfl (.tmp rfl rfl (.tmp rfl rfl .nil)) rfl ⟨rfl, (hp0).aft⟩
 have H := iff_ h_14 H
 refine kq tb hp0 [] [(33, .bool (decide (a0 = 11)))] (by kernel_rfl) fun σ => ?_
 refine k_if (tm rfl rfl) (fun h_15 => ?_) (fun h_15 => ?_)
 ·have H := ift h_15 H
  refine kq tb hp0 [] [(2, .int .i64 5), (3, .int .u32 4160749568)] (by kernel_rfl) fun σ => ?_
  refine k_ret ?_
  refine q_ret ?_
  obtain rfl := id H
  exact k_end rfl (.tmp rfl rfl (.tmp rfl rfl .nil)) rfl ⟨rfl, (hp0).aft⟩
 have H := iff_ h_15 H
 refine kq tb hp0 [] [(35, .bool (decide (a0 = 16)))] (by kernel_rfl) fun σ => ?_
 refine k_if (tm rfl rfl) (fun h_16 => ?_) (fun h_16 => ?_)
 ·have H := ift h_16 H
  refine kq tb hp0 [] [(2, .int .i64 6), (3, .int .u32 2082471936)] (by kernel_rfl) fun σ => ?_
  refine k_ret ?_
  refine q_ret ?_
  obtain rfl := id H
  exact k_end rfl (.tmp rfl rfl (.tmp rfl rfl .nil)) rfl ⟨rfl, (hp0).aft⟩
 have H := iff_ h_16 H
 refine kq tb hp0 [] [(37, .bool (decide (a0 = 17)))] (by kernel_rfl) fun σ => ?_
 refine k_if (tm rfl rfl) (fun h_17 => ?_) (fun h_17 => ?_)
 ·have H := ift h_17 H
  refine kq tb hp0 [] [(2, .int .i64 7), (3, .int .u32 740294656)] (by kernel_rfl) fun σ => ?_
  refine k_ret ?_
  refine q_ret ?_
  obtain rfl := id H
  exact k_end rfl (.tmp rfl rfl (.tmp rfl rfl .nil)) rfl ⟨rfl, (hp0).aft⟩
 have H := iff_ h_17 H
 refine kq tb hp0 [] [(39, .bool (decide (a0 = 18)))] (by kernel_rfl) fun σ => ?_
 refine k_if (tm rfl rfl) (fun h_18 => ?_) (fun h_18 => ?_)
 ·have H := ift h_18 H
  refine kq tb hp0 [] [(2, .int .i64 8), (3, .int .u32 1073741824)] (by kernel_rfl) fun σ => ?_
  refine k_ret ?_
  refine q_ret ?_
  obtain rfl := id H
  exact k_end rfl (.tmp rfl rfl (.tmp rfl rfl .nil)) rfl ⟨rfl, (hp0).aft⟩
 have H := iff_ h_18 H
 refine kq tb hp0 [] [(41, .bool (decide (a0 = 19)))] (by kernel_rfl) fun σ => ?_
 refine k_if (tm rfl rfl) (fun h_19 => ?_) (fun h_19 => ?_)
 ·have H := ift h_19 H
  refine kq tb hp0 [] [(2, .int .i64 9), (3, .int .u32 1207959552)] (by kernel_rfl) fun σ => ?_
  refine k_ret ?_
  refine q_ret ?_
  obtain rfl := id H
  exact k_end rfl (.tmp rfl rfl (.tmp rfl rfl .nil)) rfl ⟨rfl, (hp0).aft⟩
 have H := iff_ h_19 H
 refine kq tb hp0 [] [(43, .bool (decide (a0 = 20)))] (by kernel_rfl) fun σ => ?_
 refine k_if (tm rfl rfl) (fun h_20 => ?_) (fun h_20 => ?_)
 ·have H := ift h_20 H
  refine kq tb hp0 [] [(2, .int .i64 10), (3, .int .u32 2080375980)] (by kernel_rfl) fun σ => ?_
  refine k_ret ?_
  refine q_ret ?_
  obtain rfl := id H
  exact k_end rfl (.tmp rfl rfl (.tmp rfl rfl .nil)) rfl ⟨rfl, (hp0).aft⟩
 have H := iff_ h_20 H
 refine kq tb hp0 [] [(45, .bool (decide (a0 = 21)))] (by kernel_rfl) fun σ => ?_
 refine k_if (tm rfl rfl) (fun h_21 => ?_) (fun h_21 => ?_)
 ·have H := ift h_21 H
  refine kq tb hp0 [] [(2, .int .i64 10), (3, .int .u32 2082473132)] (by kernel_rfl) fun σ => ?_
  refine k_ret ?_
  refine q_ret ?_
  obtain rfl := id H
  exact k_end rfl (.tmp rfl rfl (.tmp rfl rfl .nil)) rfl ⟨rfl, (hp0).aft⟩
 have H := iff_ h_21 H
 refine kq tb hp0 [] [(47, .bool (decide (a0 = 22)))] (by kernel_rfl) fun σ => ?_
 refine k_if (tm rfl rfl) (fun h_22 => ?_) (fun h_22 => ?_)
 ·have H := ift h_22 H
  refine kq tb hp0 [] [(2, .int .i64 10), (3, .int .u32 1275068716)] (by kernel_rfl) fun σ => ?_
  refine k_ret ?_
  refine q_ret ?_
  obtain rfl := id H
  exact k_end rfl (.tmp rfl rfl (.tmp rfl rfl .nil)) rfl ⟨rfl, (hp0).aft⟩
 have H := iff_ h_22 H
 refine kq tb hp0 [] [(49, .bool (decide (a0 = 23)))] (by kernel_rfl) fun σ => ?_
 refine k_if (tm rfl rfl) (fun h_23 => ?_) (fun h_23 => ?_)
 ·have H := ift h_23 H
  refine kq tb hp0 [] [(2, .int .i64 10), (3, .int .u32 1140850690)] (by kernel_rfl) fun σ => ?_
  refine k_ret ?_
  refine q_ret ?_
  obtain rfl := id H
  exact k_end rfl (.tmp rfl rfl (.tmp rfl rfl .nil)) rfl ⟨rfl, (hp0).aft⟩
 have H := iff_ h_23 H
 refine k_skip ?_
 refine kq tb hp0 [] [(2, .int .i64 0), (3, .int .u32 0)] (by kernel_rfl) fun σ => ?_
 refine k_ret ?_
 obtain rfl := id H
 exact k_end rfl (.tmp rfl rfl (.tmp rfl rfl .nil)) rfl ⟨rfl, (hp0).aft⟩

/-! ### selvage/isa.used: function 54 -/
def isa_used.m (a0 : Int) : Bool × Bool × Bool × Int × Int × Int :=
 if (decide (a0 = 1)) = true then ((true, true, false, (-32768), 32767, 1)) else (if (decide (a0 = 2)) = true then ((true, true, false, 0, 65535, 1)) else (if (decide (a0 = 3)) = true then ((true, true, false, 0, 63, 1)) else (if (decide (a0 = 4)) = true then ((true, true, true, 0, 0, 1)) else (if (decide (a0 = 5)) = true then ((true, true, false, (-32768), 32764, 4)) else (if (decide (a0 = 6)) = true then ((false, true, true, 0, 0, 1)) else (if (decide (a0 = 7)) = true then ((false, true, false, (-32768), 32767, 1)) else (if (decide (a0 = 8)) = true then ((true, false, false, (-32768), 32764, 4)) else (if (decide (a0 = 9)) = true then ((false, false, false, (-33554432), 33554428, 4)) else ((false, false, false, 0, 0, 1))))))))))
set_option maxHeartbeats 4000000 in
set_option maxRecDepth 100000 in
theorem isa_used.calls (a0 : Int) (w : World) :
 Ret Try.prog 54 [.int .i64 a0] w fun v w' => v = .tuple #[.bool ((isa_used.m a0).1), .bool ((isa_used.m a0).2.1), .bool ((isa_used.m a0).2.2.1), .int .i64 ((isa_used.m a0).2.2.2.1), .int .i64 ((isa_used.m a0).2.2.2.2.1), .int .i64 ((isa_used.m a0).2.2.2.2.2)] ∧ Aft w w' [] [] := by
 obtain ⟨r, H⟩ : ∃ r, isa_used.m a0 = r := ⟨_, rfl⟩
 rw [H]
 unfold isa_used.m at H
 have hp0 := Hp.startR (F := no) (R := []) (Have.nil w) (fun _ h => h.elim)
 have ep0 := Ep.refl no [] w
 refine enter (L := [(0, .int .i64 a0)]) Try.func54 rfl Try.ntmps54 rfl rfl ?_
 refine kq tb hp0 [] [] (by kernel_rfl) fun σ => ?_
 refine k_seq ?_
 refine kq tb hp0 [] [(8, .int .i64 a0)] (by kernel_rfl) fun σ => ?_
 refine k_block ?_
 refine kq tb hp0 [] [(9, .bool (decide (a0 = 1)))] (by kernel_rfl) fun σ => ?_
 refine k_if (tm rfl rfl) (fun h_1 => ?_) (fun h_1 => ?_)
 ·have H := ift h_1 H
  refine kq tb hp0 [] [(2, .bool true), (3, .bool true), (4, .bool false), (5, .int .i64 (-32768)), (6, .int .i64 32767), (7, .int .i64 1)] (by kernel_rfl) fun σ => ?_
  refine k_ret ?_
  refine q_ret ?_
  obtain rfl := id H
  exact k_end rfl (.tmp rfl rfl (.tmp rfl rfl (.tmp rfl rfl (.tmp rfl rfl (.tmp rfl rfl (.tmp rfl rfl .nil)))))) rfl ⟨rfl, (hp0).aft⟩
 have H := iff_ h_1 H
 refine kq tb hp0 [] [(11, .bool (decide (a0 = 2)))] (by kernel_rfl) fun σ => ?_
 refine k_if (tm rfl rfl) (fun h_2 => ?_) (fun h_2 => ?_)
 ·have H := ift h_2 H
  refine kq tb hp0 [] [(2, .bool true), (3, .bool true), (4, .bool false), (5, .int .i64 0), (6, .int .i64 65535), (7, .int .i64 1)] (by kernel_rfl) fun σ => ?_
  refine k_ret ?_
  refine q_ret ?_
  obtain rfl := id H
  exact k_end rfl (.tmp rfl rfl (.tmp rfl rfl (.tmp rfl rfl (.tmp rfl rfl (.tmp rfl rfl (.tmp rfl rfl .nil)))))) rfl ⟨rfl, (hp0).aft⟩
 have H := iff_ h_2 H
 refine kq tb hp0 [] [(13, .bool (decide (a0 = 3)))] (by kernel_rfl) fun σ => ?_
 refine k_if (tm rfl rfl) (fun h_3 => ?_) (fun h_3 => ?_)
 ·have H := ift h_3 H
  refine kq tb hp0 [] [(2, .bool true), (3, .bool true), (4, .bool false), (5, .int .i64 0), (6, .int .i64 63), (7, .int .i64 1)] (by kernel_rfl) fun σ => ?_
  refine k_ret ?_
  refine q_ret ?_
  obtain rfl := id H
  exact k_end rfl (.tmp rfl rfl (.tmp rfl rfl (.tmp rfl rfl (.tmp rfl rfl (.tmp rfl rfl (.tmp rfl rfl .nil)))))) rfl ⟨rfl, (hp0).aft⟩
 have H := iff_ h_3 H
 refine kq tb hp0 [] [(15, .bool (decide (a0 = 4)))] (by kernel_rfl) fun σ => ?_
 refine k_if (tm rfl rfl) (fun h_4 => ?_) (fun h_4 => ?_)
 ·have H := ift h_4 H
  refine kq tb hp0 [] [(2, .bool true), (3, .bool true), (4, .bool true), (5, .int .i64 0), (6, .int .i64 0), (7, .int .i64 1)] (by kernel_rfl) fun σ => ?_
  refine k_ret ?_
  refine q_ret ?_
  obtain rfl := id H
  exact k_end rfl (.tmp rfl rfl (.tmp rfl rfl (.tmp rfl rfl (.tmp rfl rfl (.tmp rfl rfl (.tmp rfl rfl .nil)))))) rfl ⟨rfl, (hp0).aft⟩
 have H := iff_ h_4 H
 refine kq tb hp0 [] [(17, .bool (decide (a0 = 5)))] (by kernel_rfl) fun σ => ?_
 refine k_if (tm rfl rfl) (fun h_5 => ?_) (fun h_5 => ?_)
 ·have H := ift h_5 H
  refine kq tb hp0 [] [(2, .bool true), (3, .bool true), (4, .bool false), (5, .int .i64 (-32768)), (6, .int .i64 32764), (7, .int .i64 4)] (by kernel_rfl) fun σ => ?_
  refine k_ret ?_
  refine q_ret ?_
  obtain rfl := id H
  exact k_end rfl (.tmp rfl rfl (.tmp rfl rfl (.tmp rfl rfl (.tmp rfl rfl (.tmp rfl rfl (.tmp rfl rfl .nil)))))) rfl ⟨rfl, (hp0).aft⟩
 have H := iff_ h_5 H
 refine kq tb hp0 [] [(19, .bool (decide (a0 = 6)))] (by kernel_rfl) fun σ => ?_
 refine k_if (tm rfl rfl) (fun h_6 => ?_) (fun h_6 => ?_)
 ·have H := ift h_6 H
  refine kq tb hp0 [] [(2, .bool false), (3, .bool true), (4, .bool true), (5, .int .i64 0), (6, .int .i64 0), (7, .int .i64 1)] (by kernel_rfl) fun σ => ?_
  refine k_ret ?_
  refine q_ret ?_
  obtain rfl := id H
  exact k_end rfl (.tmp rfl rfl (.tmp rfl rfl (.tmp rfl rfl (.tmp rfl rfl (.tmp rfl rfl (.tmp rfl rfl .nil)))))) rfl ⟨rfl, (hp0).aft⟩
 have H := iff_ h_6 H
 refine kq tb hp0 [] [(21, .bool (decide (a0 = 7)))] (by kernel_rfl) fun σ => ?_
 refine k_if (tm rfl rfl) (fun h_7 => ?_) (fun h_7 => ?_)
 ·have H := ift h_7 H
  refine kq tb hp0 [] [(2, .bool false), (3, .bool true), (4, .bool false), (5, .int .i64 (-32768)), (6, .int .i64 32767), (7, .int .i64 1)] (by kernel_rfl) fun σ => ?_
  refine k_ret ?_
  refine q_ret ?_
  obtain rfl := id H
  exact k_end rfl (.tmp rfl rfl (.tmp rfl rfl (.tmp rfl rfl (.tmp rfl rfl (.tmp rfl rfl (.tmp rfl rfl .nil)))))) rfl ⟨rfl, (hp0).aft⟩
 have H := iff_ h_7 H
 refine kq tb hp0 [] [(23, .bool (decide (a0 = 8)))] (by kernel_rfl) fun σ => ?_
 refine k_if (tm rfl rfl) (fun h_8 => ?_) (fun h_8 => ?_)
 ·have H := ift h_8 H
  refine kq tb hp0 [] [(2, .bool true), (3, .bool false), (4, .bool false), (5, .int .i64 (-32768)), (6, .int .i64 32764), (7, .int .i64 4)] (by kernel_rfl) fun σ => ?_
  refine k_ret ?_
  refine q_ret ?_
  obtain rfl := id H
  exact k_end rfl (.tmp rfl rfl (.tmp rfl rfl (.tmp rfl rfl (.tmp rfl rfl (.tmp rfl rfl (.tmp rfl rfl .nil)))))) rfl ⟨rfl, (hp0).aft⟩
 have H := iff_ h_8 H
 refine kq tb hp0 [] [(25, .bool (decide (a0 = 9)))] (by kernel_rfl) fun σ => ?_
 refine k_if (tm rfl rfl) (fun h_9 => ?_) (fun h_9 => ?_)
 ·have H := ift h_9 H
  refine kq tb hp0 [] [(2, .bool false), (3, .bool false), (4, .bool false), (5, .int .i64 (-33554432)), (6, .int .i64 33554428), (7, .int .i64 4)] (by kernel_rfl) fun σ => ?_
  refine k_ret ?_
  refine q_ret ?_
  obtain rfl := id H
  exact k_end rfl (.tmp rfl rfl (.tmp rfl rfl (.tmp rfl rfl (.tmp rfl rfl (.tmp rfl rfl (.tmp rfl rfl .nil)))))) rfl ⟨rfl, (hp0).aft⟩
 have H := iff_ h_9 H
 refine k_skip ?_
 refine kq tb hp0 [] [(2, .bool false), (3, .bool false), (4, .bool false), (5, .int .i64 0), (6, .int .i64 0), (7, .int .i64 1)] (by kernel_rfl) fun σ => ?_
 refine k_ret ?_
 obtain rfl := id H
 exact k_end rfl (.tmp rfl rfl (.tmp rfl rfl (.tmp rfl rfl (.tmp rfl rfl (.tmp rfl rfl (.tmp rfl rfl .nil)))))) rfl ⟨rfl, (hp0).aft⟩

/-! ### selvage/isa.reg: function 55 -/
def isa_reg.m (a0 : Int) : Bool :=
 ((decide (a0 ≥ 0)) && (decide (a0 < 32)))
set_option maxHeartbeats 4000000 in
set_option maxRecDepth 100000 in
theorem isa_reg.calls (a0 : Int) (w : World) :
 Ret Try.prog 55 [.int .i64 a0] w fun v w' => v = .bool (isa_reg.m a0) ∧ Aft w w' [] [] := by
 obtain ⟨r, H⟩ : ∃ r, isa_reg.m a0 = r := ⟨_, rfl⟩
 rw [H]
 unfold isa_reg.m at H
 have hp0 := Hp.startR (F := no) (R := []) (Have.nil w) (fun _ h => h.elim)
 have ep0 := Ep.refl no [] w
 refine enter (L := [(0, .int .i64 a0)]) Try.func55 rfl Try.ntmps55 rfl rfl ?_
 refine kq tb hp0 [] [] (by kernel_rfl) fun σ => ?_
 refine kq tb hp0 [] [(2, .bool ((decide (a0 ≥ 0)) && (decide (a0 < 32))))] (by kernel_rfl) fun σ => ?_
 refine k_ret ?_
 obtain rfl := id H
 exact k_end rfl (.tmp rfl rfl .nil) rfl ⟨rfl, (hp0).aft⟩

/-! ### selvage/isa.check: function 32 -/
def isa_check.m (a0 : Int) (a1 : api_Inst) : Option Int :=
 if (((((decide (a0 = 0)) || ((!((isa_used.m a0).1)) && (!decide (a1.T = 0)))) || ((!((isa_used.m a0).2.1)) && (!decide (a1.A = 0)))) || ((!((isa_used.m a0).2.2.1)) && (!decide (a1.B = 0)))) || ((!(!decide (((isa_used.m a0).2.2.2.1) = ((isa_used.m a0).2.2.2.2.1)))) && (!decide (a1.Imm = 0)))) = true then (some 3) else ((if ((decide (a0 = 8)) && ((decide (a1.T < 0)) || (decide (a1.T > 3)))) = true then (some true) else (if (decide (a0 = 8)) = true then (if (isa_reg.m a1.A) = true then (if (((!(isa_reg.m a1.B)) || (decide (a1.Imm < ((isa_used.m a0).2.2.2.1)))) || (decide (a1.Imm > ((isa_used.m a0).2.2.2.2.1)))) = true then (some true) else (if ((isa_used.m a0).2.2.2.2.2) ≠ 0 then (some (!decide ((Int.tmod a1.Imm ((isa_used.m a0).2.2.2.2.2)) = 0))) else none)) else (some true)) else (if (isa_reg.m a1.T) = true then (if (isa_reg.m a1.A) = true then (if (((!(isa_reg.m a1.B)) || (decide (a1.Imm < ((isa_used.m a0).2.2.2.1)))) || (decide (a1.Imm > ((isa_used.m a0).2.2.2.2.1)))) = true then (some true) else (if ((isa_used.m a0).2.2.2.2.2) ≠ 0 then (some (!decide ((Int.tmod a1.Imm ((isa_used.m a0).2.2.2.2.2)) = 0))) else none)) else (some true)) else (some true))) : Option Bool).bind fun o_12 => if o_12 = true then (some 2) else (some 0))
set_option maxHeartbeats 4000000 in
set_option maxRecDepth 100000 in
theorem isa_check.calls (a0 : Int) (a1 : api_Inst) (r : Int) (w : World) (H : isa_check.m a0 a1 = some r) :
 Ret Try.prog 32 [.int .i64 a0, .agg #[.int .i64 a1.Op, .int .i64 a1.T, .int .i64 a1.A, .int .i64 a1.B, .int .i64 a1.Imm]] w fun v w' => v = .int .i64 r ∧ Aft w w' [] [] := by
 unfold isa_check.m at H
 have hp0 := Hp.startR (F := no) (R := []) (Have.nil w) (fun _ h => h.elim)
 have ep0 := Ep.refl no [] w
 refine enter (L := [(0, .int .i64 a0), (1, .agg #[.int .i64 a1.Op, .int .i64 a1.T, .int .i64 a1.A, .int .i64 a1.B, .int .i64 a1.Imm])]) Try.func32 rfl Try.ntmps32 rfl rfl ?_
 refine k_seq ?_
 refine k_region ?_
 refine s_box (l := [.int .i64 a1.Op, .int .i64 a1.T, .int .i64 a1.A, .int .i64 a1.B, .int .i64 a1.Imm]) hp0 (tm rfl rfl) rfl rfl (fun b_1 w_2 hp_3 => ?_)
 refine sv (v := .int .i64 0) rfl rfl rfl (e_assign rfl) ?_
 refine k_nil ?_
 refine k_seq ?_
 refine k_region ?_
 refine sv (v := .int .i64 a0) rfl rfl rfl (e_move (tm rfl rfl)) ?_
 refine s_call (.cons (tm rfl rfl) .nil) Try.call54 (isa_used.calls a0 _) rfl ?_
 rintro v_ w_7 ⟨rfl, af_10⟩
 have hp_8 := Hp.callA af_10 hp_3
 refine sv (v := .tuple #[.bool ((isa_used.m a0).1), .bool ((isa_used.m a0).2.1), .bool ((isa_used.m a0).2.2.1), .int .i64 ((isa_used.m a0).2.2.2.1), .int .i64 ((isa_used.m a0).2.2.2.2.1), .int .i64 ((isa_used.m a0).2.2.2.2.2)]) rfl rfl rfl (e_move (tm rfl rfl)) ?_
 refine sr tb hp_8 [] 12 [(5, .bool ((isa_used.m a0).1)), (6, .bool ((isa_used.m a0).2.1)), (7, .bool ((isa_used.m a0).2.2.1)), (8, .int .i64 ((isa_used.m a0).2.2.2.1)), (9, .int .i64 ((isa_used.m a0).2.2.2.2.1)), (10, .int .i64 ((isa_used.m a0).2.2.2.2.2))] (by kernel_rfl) fun σ => ?_
 refine k_nil ?_
 refine kq tb hp_8 [] [(11, .bool (!decide (((isa_used.m a0).2.2.2.1) = ((isa_used.m a0).2.2.2.2.1))))] (by kernel_rfl) fun σ => ?_
 refine k_seq ?_
 refine kq tb hp_8 [(3, 0, 0)] [(61, .bool (((((decide (a0 = 0)) || ((!((isa_used.m a0).1)) && (!decide (a1.T = 0)))) || ((!((isa_used.m a0).2.1)) && (!decide (a1.A = 0)))) || ((!((isa_used.m a0).2.2.1)) && (!decide (a1.B = 0)))) || ((!(!decide (((isa_used.m a0).2.2.2.1) = ((isa_used.m a0).2.2.2.2.1)))) && (!decide (a1.Imm = 0)))))] (by kernel_rfl) fun σ => ?_
 refine k_if (tm rfl rfl) (fun h_11 => ?_) (fun h_11 => ?_)
 ·have H := ift h_11 H
  refine kq tb hp_8 [] [(4, .int .i64 3)] (by kernel_rfl) fun σ => ?_
  refine k_ret ?_
  obtain rfl := Option.some.inj H
  exact k_end rfl (.tmp rfl rfl .nil) rfl ⟨rfl, (hp_8.pick [] (by decide) rfl).aft⟩
 have H := iff_ h_11 H
 refine k_skip ?_
 refine k_seq ?_
 refine k_seq ?_
 obtain ⟨o_12, H, G_13⟩ := bindSome H
 refine k_cut (fun a w' => ∃ (σ_66 : Nat → Value), a = st 115 [(114, .bool o_12)] σ_66 [] ∧ Hp (On []) no w w w' []) ?_ ?_
 ·as_aux_lemma =>
  refine k_region ?_
  refine sr tb hp_8 [(3, 0, 0)] 18 [(74, .bool ((decide (a0 = 8)) && ((decide (a1.T < 0)) || (decide (a1.T > 3))))), (77, bif (!((decide (a0 = 8)) && ((decide (a1.T < 0)) || (decide (a1.T > 3))))) then (.bool (!decide (a0 = 8))) else undef), (79, bif ((!((decide (a0 = 8)) && ((decide (a1.T < 0)) || (decide (a1.T > 3))))) && (!decide (a0 = 8))) then (.int .i64 a1.T) else undef)] (by kernel_rfl) fun σ => ?_
  rcases Bool.eq_false_or_eq_true ((decide (a0 = 8)) && ((decide (a1.T < 0)) || (decide (a1.T > 3)))) with h_14 | h_14
  ·have H := ift h_14 H
   refine goffu rfl rfl (gvu (v := .bool (!decide (a0 = 8))) (!((decide (a0 = 8)) && ((decide (a1.T < 0)) || (decide (a1.T > 3))))) rfl (by simp [(nf h_14)])) rfl ?_
   refine goffu rfl rfl (gvu (v := .bool (!decide (a0 = 8))) (!((decide (a0 = 8)) && ((decide (a1.T < 0)) || (decide (a1.T > 3))))) rfl (by simp [(nf h_14)])) rfl ?_
   refine goff rfl rfl (congrArg Value.bool h_14) rfl ?_
   refine sv (v := .bool true) rfl rfl rfl (e_pick (b := ((decide (a0 = 8)) && ((decide (a1.T < 0)) || (decide (a1.T > 3))))) (v1 := .bool true) (v2 := .bool true) (tm rfl rfl) (fun _ => rfl) (fun h_ => pk_no h_ h_14) (pk_same _ _)) ?_
   refine sv (v := .bool true) rfl rfl rfl (e_move (tm rfl rfl)) ?_
   refine goff rfl rfl rfl rfl ?_
   refine goff rfl rfl rfl rfl ?_
   refine goff rfl rfl rfl rfl ?_
   refine goff rfl rfl rfl rfl ?_
   refine sv (v := .bool true) rfl rfl rfl (e_pick (v1 := .bool true) (v2 := .bool true) (tm rfl rfl) (fun _ => rfl) (fun h_ => by cases h_) rfl) ?_
   refine sv (v := .bool true) rfl rfl rfl (e_move (tm rfl rfl)) ?_
   refine goff rfl rfl rfl rfl ?_
   refine goff rfl rfl rfl rfl ?_
   refine goff rfl rfl rfl rfl ?_
   refine goff rfl rfl rfl rfl ?_
   refine sv (v := .bool true) rfl rfl rfl (e_pick (v1 := .bool true) (v2 := .bool true) (tm rfl rfl) (fun _ => rfl) (fun h_ => by cases h_) rfl) ?_
   refine sv (v := .bool true) rfl rfl rfl (e_move (tm rfl rfl)) ?_
   refine goff rfl rfl rfl rfl ?_
   refine goff rfl rfl rfl rfl ?_
   refine goff rfl rfl rfl rfl ?_
   refine goff rfl rfl rfl rfl ?_
   refine sv (v := .bool true) rfl rfl rfl (e_pick (v1 := .bool true) (v2 := .bool true) (tm rfl rfl) (fun _ => rfl) (fun h_ => by cases h_) rfl) ?_
   refine sv (v := .bool true) rfl rfl rfl (e_move (tm rfl rfl)) ?_
   refine goff rfl rfl rfl rfl ?_
   refine goff rfl rfl rfl rfl ?_
   refine goff rfl rfl rfl rfl ?_
   refine goff rfl rfl rfl rfl ?_
   refine sv (v := .bool true) rfl rfl rfl (e_pick (v1 := .bool true) (v2 := .bool true) (tm rfl rfl) (fun _ => rfl) (fun h_ => by cases h_) rfl) ?_
   refine sv (v := .bool true) rfl rfl rfl (e_move (tm rfl rfl)) ?_
   refine goff rfl rfl rfl rfl ?_
   refine goff rfl rfl rfl rfl ?_
   refine goff rfl rfl rfl rfl ?_
   refine goff rfl rfl rfl rfl ?_
   refine goff rfl rfl rfl rfl ?_
   refine sv (v := .bool true) rfl rfl rfl (e_pick (v1 := .bool true) (v2 := .bool true) (tm rfl rfl) (fun _ => rfl) (fun h_ => by cases h_) rfl) ?_
   refine k_nil ?_
   obtain rfl := Option.some.inj H
   exact ⟨_, seenF ⟨rfl, trivial⟩, hp_8.pick [] (by decide) rfl⟩
  have H := iff_ h_14 H
  rcases Bool.eq_false_or_eq_true (decide (a0 = 8)) with h_15 | h_15
  ·have H := ift h_15 H
   refine goff rfl rfl ((gvv (v := .bool (!decide (a0 = 8))) (!((decide (a0 = 8)) && ((decide (a1.T < 0)) || (decide (a1.T > 3))))) rfl (nt h_14)).trans (congrArg Value.bool (nf h_15))) rfl ?_
   refine goff rfl rfl ((gvv (v := .bool (!decide (a0 = 8))) (!((decide (a0 = 8)) && ((decide (a1.T < 0)) || (decide (a1.T > 3))))) rfl (nt h_14)).trans (congrArg Value.bool (nf h_15))) rfl ?_
   refine gon rfl rfl (congrArg Value.bool h_14) ?_
   refine sv (v := .bool false) rfl rfl rfl (e_pick (b := (!decide (a0 = 8))) (v1 := .bool false) (v2 := .bool false) (tmg (!((decide (a0 = 8)) && ((decide (a1.T < 0)) || (decide (a1.T > 3))))) (.bool (!decide (a0 = 8))) rfl rfl (nt h_14)) (fun h_ => pk_no (nf h_15) h_) (fun _ => rfl) (pk_same _ _)) ?_
   refine sv (v := .bool false) rfl rfl rfl (e_pick (b := ((decide (a0 = 8)) && ((decide (a1.T < 0)) || (decide (a1.T > 3))))) (v1 := .bool false) (v2 := .bool false) (tm rfl rfl) (fun h_ => pk_no h_14 h_) (fun _ => (tm rfl rfl)) (pk_same _ _)) ?_
   refine sv (v := .bool false) rfl rfl rfl (e_move (tm rfl rfl)) ?_
   refine gon rfl rfl rfl ?_
   refine sv (v := .pointer (some ⟨b_1, 2, none⟩)) rfl rfl rfl (e_fieldAddr (tm rfl rfl) Try.runUnderlying44 rfl Try.sizeOf3 rfl rfl) ?_
   refine gon rfl rfl rfl ?_
   refine sv (v := .int .i64 a1.A) rfl rfl rfl (e_load1 (tm rfl rfl) Try.isAgg3 (cell_atL (hp_8.get (i := 0) (j := 0) rfl rfl) rfl)) ?_
   refine gon rfl rfl rfl ?_
   refine s_call (.cons (tm rfl rfl) .nil) Try.call55 (isa_reg.calls a1.A _) rfl ?_
   rintro v_ w_19 ⟨rfl, af_22⟩
   have hp_20 := Hp.callA af_22 hp_8
   refine gon rfl rfl rfl ?_
   refine sv (v := .bool (!(isa_reg.m a1.A))) rfl rfl rfl (e_un (tm rfl rfl) (r_not rfl)) ?_
   refine sv (v := .bool (!(isa_reg.m a1.A))) rfl rfl rfl (e_pick (v1 := .bool (!(isa_reg.m a1.A))) (v2 := .bool (!(isa_reg.m a1.A))) (tm rfl rfl) (fun h_ => by cases h_) (fun _ => (tm rfl rfl)) rfl) ?_
   refine sv (v := .bool (!(isa_reg.m a1.A))) rfl rfl rfl (e_move (tm rfl rfl)) ?_
   refine s_gp (v := .pointer (some ⟨b_1, 3, none⟩)) rfl rfl rfl (beq_f _) (fun g_ => e_fieldAddr (tm rfl rfl) Try.runUnderlying44 rfl Try.sizeOf3 rfl rfl) rfl ?_
   refine s_gp (v := .int .i64 a1.B) rfl rfl rfl (beq_f _) (fun g_ => e_load1 (tmg (!(!(isa_reg.m a1.A))) (.pointer (some ⟨b_1, 3, none⟩)) rfl rfl g_) Try.isAgg3 (cell_atL (hp_20.get (i := 0) (j := 0) rfl rfl) rfl)) rfl ?_
   rcases Bool.eq_false_or_eq_true (isa_reg.m a1.A) with h_23 | h_23
   ·have H := ift h_23 H
    refine gon rfl rfl (congrArg Value.bool (nf h_23)) ?_
    refine s_call (.cons (tmg (!(!(isa_reg.m a1.A))) (.int .i64 a1.B) rfl rfl (nt (nf h_23))) .nil) Try.call55 (isa_reg.calls a1.B _) rfl ?_
    rintro v_ w_27 ⟨rfl, af_30⟩
    have hp_28 := Hp.callA af_30 hp_20
    refine gon rfl rfl (congrArg Value.bool (nf h_23)) ?_
    refine sv (v := .bool (!(isa_reg.m a1.B))) rfl rfl rfl (e_un (tm rfl rfl) (r_not rfl)) ?_
    refine sv (v := .bool (!(isa_reg.m a1.B))) rfl rfl rfl (e_pick (b := (!(isa_reg.m a1.A))) (v1 := .bool (!(isa_reg.m a1.B))) (v2 := .bool (!(isa_reg.m a1.B))) (tm rfl rfl) (fun h_ => pk_no (nf h_23) h_) (fun _ => (tm rfl rfl)) (pk_same _ _)) ?_
    refine sv (v := .bool (!(isa_reg.m a1.B))) rfl rfl rfl (e_move (tm rfl rfl)) ?_
    refine s_gp (v := .pointer (some ⟨b_1, 4, none⟩)) rfl rfl rfl (beq_f _) (fun g_ => e_fieldAddr (tm rfl rfl) Try.runUnderlying44 rfl Try.sizeOf3 rfl rfl) rfl ?_
    refine s_gp (v := .int .i64 a1.Imm) rfl rfl rfl (beq_f _) (fun g_ => e_load1 (tmg (!(!(isa_reg.m a1.B))) (.pointer (some ⟨b_1, 4, none⟩)) rfl rfl g_) Try.isAgg3 (cell_atL (hp_28.get (i := 0) (j := 0) rfl rfl) rfl)) rfl ?_
    refine s_gp (v := .int .i64 ((isa_used.m a0).2.2.2.1)) rfl rfl rfl (beq_f _) (fun g_ => e_move (tm rfl rfl)) rfl ?_
    refine s_gp (v := .bool (decide (a1.Imm < ((isa_used.m a0).2.2.2.1)))) rfl rfl rfl (beq_f _) (fun g_ => e_bin (tmg (!(!(isa_reg.m a1.B))) (.int .i64 a1.Imm) rfl rfl g_) (tmg (!(!(isa_reg.m a1.B))) (.int .i64 ((isa_used.m a0).2.2.2.1)) rfl rfl g_) (r_lss rfl)) rfl ?_
    refine sv (v := .bool ((!(isa_reg.m a1.B)) || (decide (a1.Imm < ((isa_used.m a0).2.2.2.1))))) rfl rfl rfl (e_pick (v1 := .bool true) (v2 := .bool (decide (a1.Imm < ((isa_used.m a0).2.2.2.1)))) (tm rfl rfl) (fun _ => rfl) (fun h_ => tmg (!(!(isa_reg.m a1.B))) (.bool (decide (a1.Imm < ((isa_used.m a0).2.2.2.1)))) rfl rfl (nt h_)) (pk_or (!(isa_reg.m a1.B)))) ?_
    refine sv (v := .bool ((!(isa_reg.m a1.B)) || (decide (a1.Imm < ((isa_used.m a0).2.2.2.1))))) rfl rfl rfl (e_move (tm rfl rfl)) ?_
    refine s_gp (v := .pointer (some ⟨b_1, 4, none⟩)) rfl rfl rfl (beq_f _) (fun g_ => e_fieldAddr (tm rfl rfl) Try.runUnderlying44 rfl Try.sizeOf3 rfl rfl) rfl ?_
    refine s_gp (v := .int .i64 a1.Imm) rfl rfl rfl (beq_f _) (fun g_ => e_load1 (tmg (!((!(isa_reg.m a1.B)) || (decide (a1.Imm < ((isa_used.m a0).2.2.2.1))))) (.pointer (some ⟨b_1, 4, none⟩)) rfl rfl g_) Try.isAgg3 (cell_atL (hp_28.get (i := 0) (j := 0) rfl rfl) rfl)) rfl ?_
    refine s_gp (v := .int .i64 ((isa_used.m a0).2.2.2.2.1)) rfl rfl rfl (beq_f _) (fun g_ => e_move (tm rfl rfl)) rfl ?_
    refine s_gp (v := .bool (decide (a1.Imm > ((isa_used.m a0).2.2.2.2.1)))) rfl rfl rfl (beq_f _) (fun g_ => e_bin (tmg (!((!(isa_reg.m a1.B)) || (decide (a1.Imm < ((isa_used.m a0).2.2.2.1))))) (.int .i64 a1.Imm) rfl rfl g_) (tmg (!((!(isa_reg.m a1.B)) || (decide (a1.Imm < ((isa_used.m a0).2.2.2.1))))) (.int .i64 ((isa_used.m a0).2.2.2.2.1)) rfl rfl g_) (r_gtr rfl)) rfl ?_
    refine sv (v := .bool (((!(isa_reg.m a1.B)) || (decide (a1.Imm < ((isa_used.m a0).2.2.2.1)))) || (decide (a1.Imm > ((isa_used.m a0).2.2.2.2.1))))) rfl rfl rfl (e_pick (v1 := .bool true) (v2 := .bool (decide (a1.Imm > ((isa_used.m a0).2.2.2.2.1)))) (tm rfl rfl) (fun _ => rfl) (fun h_ => tmg (!((!(isa_reg.m a1.B)) || (decide (a1.Imm < ((isa_used.m a0).2.2.2.1))))) (.bool (decide (a1.Imm > ((isa_used.m a0).2.2.2.2.1)))) rfl rfl (nt h_)) (pk_or ((!(isa_reg.m a1.B)) || (decide (a1.Imm < ((isa_used.m a0).2.2.2.1)))))) ?_
    refine sv (v := .bool (((!(isa_reg.m a1.B)) || (decide (a1.Imm < ((isa_used.m a0).2.2.2.1)))) || (decide (a1.Imm > ((isa_used.m a0).2.2.2.2.1))))) rfl rfl rfl (e_move (tm rfl rfl)) ?_
    refine s_gp (v := .pointer (some ⟨b_1, 4, none⟩)) rfl rfl rfl (beq_f _) (fun g_ => e_fieldAddr (tm rfl rfl) Try.runUnderlying44 rfl Try.sizeOf3 rfl rfl) rfl ?_
    refine s_gp (v := .int .i64 a1.Imm) rfl rfl rfl (beq_f _) (fun g_ => e_load1 (tmg (!(((!(isa_reg.m a1.B)) || (decide (a1.Imm < ((isa_used.m a0).2.2.2.1)))) || (decide (a1.Imm > ((isa_used.m a0).2.2.2.2.1))))) (.pointer (some ⟨b_1, 4, none⟩)) rfl rfl g_) Try.isAgg3 (cell_atL (hp_28.get (i := 0) (j := 0) rfl rfl) rfl)) rfl ?_
    refine s_gp (v := .int .i64 ((isa_used.m a0).2.2.2.2.2)) rfl rfl rfl (beq_f _) (fun g_ => e_move (tm rfl rfl)) rfl ?_
    rcases Bool.eq_false_or_eq_true (((!(isa_reg.m a1.B)) || (decide (a1.Imm < ((isa_used.m a0).2.2.2.1)))) || (decide (a1.Imm > ((isa_used.m a0).2.2.2.2.1)))) with h_32 | h_32
    ·have H := ift h_32 H
     refine goff rfl rfl (congrArg Value.bool h_32) rfl ?_
     refine goff rfl rfl (congrArg Value.bool h_32) rfl ?_
     refine sv (v := .bool true) rfl rfl rfl (e_pick (b := (((!(isa_reg.m a1.B)) || (decide (a1.Imm < ((isa_used.m a0).2.2.2.1)))) || (decide (a1.Imm > ((isa_used.m a0).2.2.2.2.1))))) (v1 := .bool true) (v2 := .bool true) (tm rfl rfl) (fun _ => rfl) (fun h_ => pk_no h_ h_32) (pk_same _ _)) ?_
     refine k_nil ?_
     obtain rfl := Option.some.inj H
     exact ⟨_, seenF ⟨rfl, trivial⟩, hp_28.pick [] (by decide) rfl⟩
    have H := iff_ h_32 H
    refine gon rfl rfl (congrArg Value.bool h_32) ?_
    obtain ⟨g_33, H⟩ := grd H
    refine sv (v := .int .i64 (Int.tmod a1.Imm ((isa_used.m a0).2.2.2.2.2))) rfl rfl rfl (e_bin (tmg (!(((!(isa_reg.m a1.B)) || (decide (a1.Imm < ((isa_used.m a0).2.2.2.1)))) || (decide (a1.Imm > ((isa_used.m a0).2.2.2.2.1))))) (.int .i64 a1.Imm) rfl rfl (nt h_32)) (tmg (!(((!(isa_reg.m a1.B)) || (decide (a1.Imm < ((isa_used.m a0).2.2.2.1)))) || (decide (a1.Imm > ((isa_used.m a0).2.2.2.2.1))))) (.int .i64 ((isa_used.m a0).2.2.2.2.2)) rfl rfl (nt h_32)) (r_rem g_33 rfl)) ?_
    refine gon rfl rfl (congrArg Value.bool h_32) ?_
    refine sv (v := .bool (!decide ((Int.tmod a1.Imm ((isa_used.m a0).2.2.2.2.2)) = 0))) rfl rfl rfl (e_bin (tm rfl rfl) rfl (r_neq rfl)) ?_
    refine sv (v := .bool (!decide ((Int.tmod a1.Imm ((isa_used.m a0).2.2.2.2.2)) = 0))) rfl rfl rfl (e_pick (b := (((!(isa_reg.m a1.B)) || (decide (a1.Imm < ((isa_used.m a0).2.2.2.1)))) || (decide (a1.Imm > ((isa_used.m a0).2.2.2.2.1))))) (v1 := .bool (!decide ((Int.tmod a1.Imm ((isa_used.m a0).2.2.2.2.2)) = 0))) (v2 := .bool (!decide ((Int.tmod a1.Imm ((isa_used.m a0).2.2.2.2.2)) = 0))) (tm rfl rfl) (fun h_ => pk_no h_32 h_) (fun _ => (tm rfl rfl)) (pk_same _ _)) ?_
    refine k_nil ?_
    obtain rfl := Option.some.inj H
    exact ⟨_, seenF ⟨rfl, trivial⟩, hp_28.pick [] (by decide) rfl⟩
   have H := iff_ h_23 H
   refine goff rfl rfl (congrArg Value.bool (nt h_23)) rfl ?_
   refine goff rfl rfl (congrArg Value.bool (nt h_23)) rfl ?_
   refine sv (v := .bool true) rfl rfl rfl (e_pick (b := (!(isa_reg.m a1.A))) (v1 := .bool true) (v2 := .bool true) (tm rfl rfl) (fun _ => rfl) (fun h_ => pk_no h_ (nt h_23)) (pk_same _ _)) ?_
   refine sv (v := .bool true) rfl rfl rfl (e_move (tm rfl rfl)) ?_
   refine goff rfl rfl rfl rfl ?_
   refine goff rfl rfl rfl rfl ?_
   refine goff rfl rfl rfl rfl ?_
   refine goff rfl rfl rfl rfl ?_
   refine sv (v := .bool true) rfl rfl rfl (e_pick (v1 := .bool true) (v2 := .bool true) (tm rfl rfl) (fun _ => rfl) (fun h_ => by cases h_) rfl) ?_
   refine sv (v := .bool true) rfl rfl rfl (e_move (tm rfl rfl)) ?_
   refine goff rfl rfl rfl rfl ?_
   refine goff rfl rfl rfl rfl ?_
   refine goff rfl rfl rfl rfl ?_
   refine goff rfl rfl rfl rfl ?_
   refine sv (v := .bool true) rfl rfl rfl (e_pick (v1 := .bool true) (v2 := .bool true) (tm rfl rfl) (fun _ => rfl) (fun h_ => by cases h_) rfl) ?_
   refine sv (v := .bool true) rfl rfl rfl (e_move (tm rfl rfl)) ?_
   refine goff rfl rfl rfl rfl ?_
   refine goff rfl rfl rfl rfl ?_
   refine goff rfl rfl rfl rfl ?_
   refine goff rfl rfl rfl rfl ?_
   refine goff rfl rfl rfl rfl ?_
   refine sv (v := .bool true) rfl rfl rfl (e_pick (v1 := .bool true) (v2 := .bool true) (tm rfl rfl) (fun _ => rfl) (fun h_ => by cases h_) rfl) ?_
   refine k_nil ?_
   obtain rfl := Option.some.inj H
   exact ⟨_, seenF ⟨rfl, trivial⟩, hp_20.pick [] (by decide) rfl⟩
  have H := iff_ h_15 H
  refine gon rfl rfl ((gvv (v := .bool (!decide (a0 = 8))) (!((decide (a0 = 8)) && ((decide (a1.T < 0)) || (decide (a1.T > 3))))) rfl (nt h_14)).trans (congrArg Value.bool (nt h_15))) ?_
  refine s_call (.cons (tmg ((!((decide (a0 = 8)) && ((decide (a1.T < 0)) || (decide (a1.T > 3))))) && (!decide (a0 = 8))) (.int .i64 a1.T) rfl rfl (and_i (nt h_14) (nt h_15))) .nil) Try.call55 (isa_reg.calls a1.T _) rfl ?_
  rintro v_ w_37 ⟨rfl, af_40⟩
  have hp_38 := Hp.callA af_40 hp_8
  refine gon rfl rfl ((gvv (v := .bool (!decide (a0 = 8))) (!((decide (a0 = 8)) && ((decide (a1.T < 0)) || (decide (a1.T > 3))))) rfl (nt h_14)).trans (congrArg Value.bool (nt h_15))) ?_
  refine sv (v := .bool (!(isa_reg.m a1.T))) rfl rfl rfl (e_un (tm rfl rfl) (r_not rfl)) ?_
  refine gon rfl rfl (congrArg Value.bool h_14) ?_
  refine sv (v := .bool (!(isa_reg.m a1.T))) rfl rfl rfl (e_pick (b := (!decide (a0 = 8))) (v1 := .bool (!(isa_reg.m a1.T))) (v2 := .bool (!(isa_reg.m a1.T))) (tmg (!((decide (a0 = 8)) && ((decide (a1.T < 0)) || (decide (a1.T > 3))))) (.bool (!decide (a0 = 8))) rfl rfl (nt h_14)) (fun _ => (tm rfl rfl)) (fun h_ => pk_no h_ (nt h_15)) (pk_same _ _)) ?_
  refine sv (v := .bool (!(isa_reg.m a1.T))) rfl rfl rfl (e_pick (b := ((decide (a0 = 8)) && ((decide (a1.T < 0)) || (decide (a1.T > 3))))) (v1 := .bool (!(isa_reg.m a1.T))) (v2 := .bool (!(isa_reg.m a1.T))) (tm rfl rfl) (fun h_ => pk_no h_14 h_) (fun _ => (tm rfl rfl)) (pk_same _ _)) ?_
  refine sv (v := .bool (!(isa_reg.m a1.T))) rfl rfl rfl (e_move (tm rfl rfl)) ?_
  refine s_gp (v := .pointer (some ⟨b_1, 2, none⟩)) rfl rfl rfl (beq_f _) (fun g_ => e_fieldAddr (tm rfl rfl) Try.runUnderlying44 rfl Try.sizeOf3 rfl rfl) rfl ?_
  refine s_gp (v := .int .i64 a1.A) rfl rfl rfl (beq_f _) (fun g_ => e_load1 (tmg (!(!(isa_reg.m a1.T))) (.pointer (some ⟨b_1, 2, none⟩)) rfl rfl g_) Try.isAgg3 (cell_atL (hp_38.get (i := 0) (j := 0) rfl rfl) rfl)) rfl ?_
  rcases Bool.eq_false_or_eq_true (isa_reg.m a1.T) with h_41 | h_41
  ·have H := ift h_41 H
   refine gon rfl rfl (congrArg Value.bool (nf h_41)) ?_
   refine s_call (.cons (tmg (!(!(isa_reg.m a1.T))) (.int .i64 a1.A) rfl rfl (nt (nf h_41))) .nil) Try.call55 (isa_reg.calls a1.A _) rfl ?_
   rintro v_ w_45 ⟨rfl, af_48⟩
   have hp_46 := Hp.callA af_48 hp_38
   refine gon rfl rfl (congrArg Value.bool (nf h_41)) ?_
   refine sv (v := .bool (!(isa_reg.m a1.A))) rfl rfl rfl (e_un (tm rfl rfl) (r_not rfl)) ?_
   refine sv (v := .bool (!(isa_reg.m a1.A))) rfl rfl rfl (e_pick (b := (!(isa_reg.m a1.T))) (v1 := .bool (!(isa_reg.m a1.A))) (v2 := .bool (!(isa_reg.m a1.A))) (tm rfl rfl) (fun h_ => pk_no (nf h_41) h_) (fun _ => (tm rfl rfl)) (pk_same _ _)) ?_
   refine sv (v := .bool (!(isa_reg.m a1.A))) rfl rfl rfl (e_move (tm rfl rfl)) ?_
   refine s_gp (v := .pointer (some ⟨b_1, 3, none⟩)) rfl rfl rfl (beq_f _) (fun g_ => e_fieldAddr (tm rfl rfl) Try.runUnderlying44 rfl Try.sizeOf3 rfl rfl) rfl ?_
   refine s_gp (v := .int .i64 a1.B) rfl rfl rfl (beq_f _) (fun g_ => e_load1 (tmg (!(!(isa_reg.m a1.A))) (.pointer (some ⟨b_1, 3, none⟩)) rfl rfl g_) Try.isAgg3 (cell_atL (hp_46.get (i := 0) (j := 0) rfl rfl) rfl)) rfl ?_
   rcases Bool.eq_false_or_eq_true (isa_reg.m a1.A) with h_49 | h_49
   ·have H := ift h_49 H
    refine gon rfl rfl (congrArg Value.bool (nf h_49)) ?_
    refine s_call (.cons (tmg (!(!(isa_reg.m a1.A))) (.int .i64 a1.B) rfl rfl (nt (nf h_49))) .nil) Try.call55 (isa_reg.calls a1.B _) rfl ?_
    rintro v_ w_53 ⟨rfl, af_56⟩
    have hp_54 := Hp.callA af_56 hp_46
    refine gon rfl rfl (congrArg Value.bool (nf h_49)) ?_
    refine sv (v := .bool (!(isa_reg.m a1.B))) rfl rfl rfl (e_un (tm rfl rfl) (r_not rfl)) ?_
    refine sv (v := .bool (!(isa_reg.m a1.B))) rfl rfl rfl (e_pick (b := (!(isa_reg.m a1.A))) (v1 := .bool (!(isa_reg.m a1.B))) (v2 := .bool (!(isa_reg.m a1.B))) (tm rfl rfl) (fun h_ => pk_no (nf h_49) h_) (fun _ => (tm rfl rfl)) (pk_same _ _)) ?_
    refine sv (v := .bool (!(isa_reg.m a1.B))) rfl rfl rfl (e_move (tm rfl rfl)) ?_
    refine s_gp (v := .pointer (some ⟨b_1, 4, none⟩)) rfl rfl rfl (beq_f _) (fun g_ => e_fieldAddr (tm rfl rfl) Try.runUnderlying44 rfl Try.sizeOf3 rfl rfl) rfl ?_
    refine s_gp (v := .int .i64 a1.Imm) rfl rfl rfl (beq_f _) (fun g_ => e_load1 (tmg (!(!(isa_reg.m a1.B))) (.pointer (some ⟨b_1, 4, none⟩)) rfl rfl g_) Try.isAgg3 (cell_atL (hp_54.get (i := 0) (j := 0) rfl rfl) rfl)) rfl ?_
    refine s_gp (v := .int .i64 ((isa_used.m a0).2.2.2.1)) rfl rfl rfl (beq_f _) (fun g_ => e_move (tm rfl rfl)) rfl ?_
    refine s_gp (v := .bool (decide (a1.Imm < ((isa_used.m a0).2.2.2.1)))) rfl rfl rfl (beq_f _) (fun g_ => e_bin (tmg (!(!(isa_reg.m a1.B))) (.int .i64 a1.Imm) rfl rfl g_) (tmg (!(!(isa_reg.m a1.B))) (.int .i64 ((isa_used.m a0).2.2.2.1)) rfl rfl g_) (r_lss rfl)) rfl ?_
    refine sv (v := .bool ((!(isa_reg.m a1.B)) || (decide (a1.Imm < ((isa_used.m a0).2.2.2.1))))) rfl rfl rfl (e_pick (v1 := .bool true) (v2 := .bool (decide (a1.Imm < ((isa_used.m a0).2.2.2.1)))) (tm rfl rfl) (fun _ => rfl) (fun h_ => tmg (!(!(isa_reg.m a1.B))) (.bool (decide (a1.Imm < ((isa_used.m a0).2.2.2.1)))) rfl rfl (nt h_)) (pk_or (!(isa_reg.m a1.B)))) ?_
    refine sv (v := .bool ((!(isa_reg.m a1.B)) || (decide (a1.Imm < ((isa_used.m a0).2.2.2.1))))) rfl rfl rfl (e_move (tm rfl rfl)) ?_
    refine s_gp (v := .pointer (some ⟨b_1, 4, none⟩)) rfl rfl rfl (beq_f _) (fun g_ => e_fieldAddr (tm rfl rfl) Try.runUnderlying44 rfl Try.sizeOf3 rfl rfl) rfl ?_
    refine s_gp (v := .int .i64 a1.Imm) rfl rfl rfl (beq_f _) (fun g_ => e_load1 (tmg (!((!(isa_reg.m a1.B)) || (decide (a1.Imm < ((isa_used.m a0).2.2.2.1))))) (.pointer (some ⟨b_1, 4, none⟩)) rfl rfl g_) Try.isAgg3 (cell_atL (hp_54.get (i := 0) (j := 0) rfl rfl) rfl)) rfl ?_
    refine s_gp (v := .int .i64 ((isa_used.m a0).2.2.2.2.1)) rfl rfl rfl (beq_f _) (fun g_ => e_move (tm rfl rfl)) rfl ?_
    refine s_gp (v := .bool (decide (a1.Imm > ((isa_used.m a0).2.2.2.2.1)))) rfl rfl rfl (beq_f _) (fun g_ => e_bin (tmg (!((!(isa_reg.m a1.B)) || (decide (a1.Imm < ((isa_used.m a0).2.2.2.1))))) (.int .i64 a1.Imm) rfl rfl g_) (tmg (!((!(isa_reg.m a1.B)) || (decide (a1.Imm < ((isa_used.m a0).2.2.2.1))))) (.int .i64 ((isa_used.m a0).2.2.2.2.1)) rfl rfl g_) (r_gtr rfl)) rfl ?_
    refine sv (v := .bool (((!(isa_reg.m a1.B)) || (decide (a1.Imm < ((isa_used.m a0).2.2.2.1)))) || (decide (a1.Imm > ((isa_used.m a0).2.2.2.2.1))))) rfl rfl rfl (e_pick (v1 := .bool true) (v2 := .bool (decide (a1.Imm > ((isa_used.m a0).2.2.2.2.1)))) (tm rfl rfl) (fun _ => rfl) (fun h_ => tmg (!((!(isa_reg.m a1.B)) || (decide (a1.Imm < ((isa_used.m a0).2.2.2.1))))) (.bool (decide (a1.Imm > ((isa_used.m a0).2.2.2.2.1)))) rfl rfl (nt h_)) (pk_or ((!(isa_reg.m a1.B)) || (decide (a1.Imm < ((isa_used.m a0).2.2.2.1)))))) ?_
    refine sv (v := .bool (((!(isa_reg.m a1.B)) || (decide (a1.Imm < ((isa_used.m a0).2.2.2.1)))) || (decide (a1.Imm > ((isa_used.m a0).2.2.2.2.1))))) rfl rfl rfl (e_move (tm rfl rfl)) ?_
    refine s_gp (v := .pointer (some ⟨b_1, 4, none⟩)) rfl rfl rfl (beq_f _) (fun g_ => e_fieldAddr (tm rfl rfl) Try.runUnderlying44 rfl Try.sizeOf3 rfl rfl) rfl ?_
    refine s_gp (v := .int .i64 a1.Imm) rfl rfl rfl (beq_f _) (fun g_ => e_load1 (tmg (!(((!(isa_reg.m a1.B)) || (decide (a1.Imm < ((isa_used.m a0).2.2.2.1)))) || (decide (a1.Imm > ((isa_used.m a0).2.2.2.2.1))))) (.pointer (some ⟨b_1, 4, none⟩)) rfl rfl g_) Try.isAgg3 (cell_atL (hp_54.get (i := 0) (j := 0) rfl rfl) rfl)) rfl ?_
    refine s_gp (v := .int .i64 ((isa_used.m a0).2.2.2.2.2)) rfl rfl rfl (beq_f _) (fun g_ => e_move (tm rfl rfl)) rfl ?_
    rcases Bool.eq_false_or_eq_true (((!(isa_reg.m a1.B)) || (decide (a1.Imm < ((isa_used.m a0).2.2.2.1)))) || (decide (a1.Imm > ((isa_used.m a0).2.2.2.2.1)))) with h_58 | h_58
    ·have H := ift h_58 H
     refine goff rfl rfl (congrArg Value.bool h_58) rfl ?_
     refine goff rfl rfl (congrArg Value.bool h_58) rfl ?_
     refine sv (v := .bool true) rfl rfl rfl (e_pick (b := (((!(isa_reg.m a1.B)) || (decide (a1.Imm < ((isa_used.m a0).2.2.2.1)))) || (decide (a1.Imm > ((isa_used.m a0).2.2.2.2.1))))) (v1 := .bool true) (v2 := .bool true) (tm rfl rfl) (fun _ => rfl) (fun h_ => pk_no h_ h_58) (pk_same _ _)) ?_
     refine k_nil ?_
     obtain rfl := Option.some.inj H
     exact ⟨_, seenF ⟨rfl, trivial⟩, hp_54.pick [] (by decide) rfl⟩
    have H := iff_ h_58 H
    refine gon rfl rfl (congrArg Value.bool h_58) ?_
    obtain ⟨g_59, H⟩ := grd H
    refine sv (v := .int .i64 (Int.tmod a1.Imm ((isa_used.m a0).2.2.2.2.2))) rfl rfl rfl (e_bin (tmg (!(((!(isa_reg.m a1.B)) || (decide (a1.Imm < ((isa_used.m a0).2.2.2.1)))) || (decide (a1.Imm > ((isa_used.m a0).2.2.2.2.1))))) (.int .i64 a1.Imm) rfl rfl (nt h_58)) (tmg (!(((!(isa_reg.m a1.B)) || (decide (a1.Imm < ((isa_used.m a0).2.2.2.1)))) || (decide (a1.Imm > ((isa_used.m a0).2.2.2.2.1))))) (.int .i64 ((isa_used.m a0).2.2.2.2.2)) rfl rfl (nt h_58)) (r_rem g_59 rfl)) ?_
    refine gon rfl rfl (congrArg Value.bool h_58) ?_
    refine sv (v := .bool (!decide ((Int.tmod a1.Imm ((isa_used.m a0).2.2.2.2.2)) = 0))) rfl rfl rfl (e_bin (tm rfl rfl) rfl (r_neq rfl)) ?_
    refine sv (v := .bool (!decide ((Int.tmod a1.Imm ((isa_used.m a0).2.2.2.2.2)) = 0))) rfl rfl rfl (e_pick (b := (((!(isa_reg.m a1.B)) || (decide (a1.Imm < ((isa_used.m a0).2.2.2.1)))) || (decide (a1.Imm > ((isa_used.m a0).2.2.2.2.1))))) (v1 := .bool (!decide ((Int.tmod a1.Imm ((isa_used.m a0).2.2.2.2.2)) = 0))) (v2 := .bool (!decide ((Int.tmod a1.Imm ((isa_used.m a0).2.2.2.2.2)) = 0))) (tm rfl rfl) (fun h_ => pk_no h_58 h_) (fun _ => (tm rfl rfl)) (pk_same _ _)) ?_
    refine k_nil ?_
    obtain rfl := Option.some.inj H
    exact ⟨_, seenF ⟨rfl, trivial⟩, hp_54.pick [] (by decide) rfl⟩
   have H := iff_ h_49 H
   refine goff rfl rfl (congrArg Value.bool (nt h_49)) rfl ?_
   refine goff rfl rfl (congrArg Value.bool (nt h_49)) rfl ?_
   refine sv (v := .bool true) rfl rfl rfl (e_pick (b := (!(isa_reg.m a1.A))) (v1 := .bool true) (v2 := .bool true) (tm rfl rfl) (fun _ => rfl) (fun h_ => pk_no h_ (nt h_49)) (pk_same _ _)) ?_
   refine sv (v := .bool true) rfl rfl rfl (e_move (tm rfl rfl)) ?_
   refine goff rfl rfl rfl rfl ?_
   refine goff rfl rfl rfl rfl ?_
   refine goff rfl rfl rfl rfl ?_
   refine goff rfl rfl rfl rfl ?_
   refine sv (v := .bool true) rfl rfl rfl (e_pick (v1 := .bool true) (v2 := .bool true) (tm rfl rfl) (fun _ => rfl) (fun h_ => by cases h_) rfl) ?_
   refine sv (v := .bool true) rfl rfl rfl (e_move (tm rfl rfl)) ?_
   refine goff rfl rfl rfl rfl ?_
   refine goff rfl rfl rfl rfl ?_
   refine goff rfl rfl rfl rfl ?_
   refine goff rfl rfl rfl rfl ?_
   refine sv (v := .bool true) rfl rfl rfl (e_pick (v1 := .bool true) (v2 := .bool true) (tm rfl rfl) (fun _ => rfl) (fun h_ => by cases h_) rfl) ?_
   refine sv (v := .bool true) rfl rfl rfl (e_move (tm rfl rfl)) ?_
   refine goff rfl rfl rfl rfl ?_
   refine goff rfl rfl rfl rfl ?_
   refine goff rfl rfl rfl rfl ?_
   refine goff rfl rfl rfl rfl ?_
   refine goff rfl rfl rfl rfl ?_
   refine sv (v := .bool true) rfl rfl rfl (e_pick (v1 := .bool true) (v2 := .bool true) (tm rfl rfl) (fun _ => rfl) (fun h_ => by cases h_) rfl) ?_
   refine k_nil ?_
   obtain rfl := Option.some.inj H
   exact ⟨_, seenF ⟨rfl, trivial⟩, hp_46.pick [] (by decide) rfl⟩
  have H := iff_ h_41 H
  refine goff rfl rfl (congrArg Value.bool (nt h_41)) rfl ?_
  refine goff rfl rfl (congrArg Value.bool (nt h_41)) rfl ?_
  refine sv (v := .bool true) rfl rfl rfl (e_pick (b := (!(isa_reg.m a1.T))) (v1 := .bool true) (v2 := .bool true) (tm rfl rfl) (fun _ => rfl) (fun h_ => pk_no h_ (nt h_41)) (pk_same _ _)) ?_
  refine sv (v := .bool true) rfl rfl rfl (e_move (tm rfl rfl)) ?_
  refine goff rfl rfl rfl rfl ?_
  refine goff rfl rfl rfl rfl ?_
  refine goff rfl rfl rfl rfl ?_
  refine goff rfl rfl rfl rfl ?_
  refine sv (v := .bool true) rfl rfl rfl (e_pick (v1 := .bool true) (v2 := .bool true) (tm rfl rfl) (fun _ => rfl) (fun h_ => by cases h_) rfl) ?_
  refine sv (v := .bool true) rfl rfl rfl (e_move (tm rfl rfl)) ?_
  refine goff rfl rfl rfl rfl ?_
  refine goff rfl rfl rfl rfl ?_
  refine goff rfl rfl rfl rfl ?_
  refine goff rfl rfl rfl rfl ?_
  refine sv (v := .bool true) rfl rfl rfl (e_pick (v1 := .bool true) (v2 := .bool true) (tm rfl rfl) (fun _ => rfl) (fun h_ => by cases h_) rfl) ?_
  refine sv (v := .bool true) rfl rfl rfl (e_move (tm rfl rfl)) ?_
  refine goff rfl rfl rfl rfl ?_
  refine goff rfl rfl rfl rfl ?_
  refine goff rfl rfl rfl rfl ?_
  refine goff rfl rfl rfl rfl ?_
  refine sv (v := .bool true) rfl rfl rfl (e_pick (v1 := .bool true) (v2 := .bool true) (tm rfl rfl) (fun _ => rfl) (fun h_ => by cases h_) rfl) ?_
  refine sv (v := .bool true) rfl rfl rfl (e_move (tm rfl rfl)) ?_
  refine goff rfl rfl rfl rfl ?_
  refine goff rfl rfl rfl rfl ?_
  refine goff rfl rfl rfl rfl ?_
  refine goff rfl rfl rfl rfl ?_
  refine goff rfl rfl rfl rfl ?_
  refine sv (v := .bool true) rfl rfl rfl (e_pick (v1 := .bool true) (v2 := .bool true) (tm rfl rfl) (fun _ => rfl) (fun h_ => by cases h_) rfl) ?_
  refine k_nil ?_
  obtain rfl := Option.some.inj H
  exact ⟨_, seenF ⟨rfl, trivial⟩, hp_38.pick [] (by decide) rfl⟩
 clear H
 rintro a w' ⟨σ_60, rfl, hp_61⟩
 have H := G_13
 refine k_if (tm rfl rfl) (fun h_64 => ?_) (fun h_64 => ?_)
 ·have H := ift h_64 H
  refine kq tb hp_61 [] [(4, .int .i64 2)] (by kernel_rfl) fun σ => ?_
  refine k_ret ?_
  obtain rfl := Option.some.inj H
  exact k_end rfl (.tmp rfl rfl .nil) rfl ⟨rfl, (hp_61).aft⟩
 have H := iff_ h_64 H
 refine k_skip ?_
 refine kq tb hp_61 [] [(4, .int .i64 0)] (by kernel_rfl) fun σ => ?_
 refine k_ret ?_
 obtain rfl := Option.some.inj H
 exact k_end rfl (.tmp rfl rfl .nil) rfl ⟨rfl, (hp_61).aft⟩

/-! ### selvage/isa.cond: function 33 -/
def isa_cond.m (a0 : Int) : Int :=
 if (decide (a0 = 0)) = true then (25165824) else (if (decide (a0 = 1)) = true then (8388608) else (if (decide (a0 = 2)) = true then (25296896) else (8519680)))
set_option maxHeartbeats 4000000 in
set_option maxRecDepth 100000 in
theorem isa_cond.calls (a0 : Int) (w : World) :
 Ret Try.prog 33 [.int .i64 a0] w fun v w' => v = .int .u32 (isa_cond.m a0) ∧ Aft w w' [] [] := by
 obtain ⟨r, H⟩ : ∃ r, isa_cond.m a0 = r := ⟨_, rfl⟩
 rw [H]
 unfold isa_cond.m at H
 have hp0 := Hp.startR (F := no) (R := []) (Have.nil w) (fun _ h => h.elim)
 have ep0 := Ep.refl no [] w
 refine enter (L := [(0, .int .i64 a0)]) Try.func33 rfl Try.ntmps33 rfl rfl ?_
 refine kq tb hp0 [] [] (by kernel_rfl) fun σ => ?_
 refine k_seq ?_
 refine kq tb hp0 [] [(3, .int .i64 a0)] (by kernel_rfl) fun σ => ?_
 refine k_block ?_
 refine kq tb hp0 [] [(4, .bool (decide (a0 = 0)))] (by kernel_rfl) fun σ => ?_
 refine k_if (tm rfl rfl) (fun h_1 => ?_) (fun h_1 => ?_)
 ·have H := ift h_1 H
  refine kq tb hp0 [] [(2, .int .u32 25165824)] (by kernel_rfl) fun σ => ?_
  refine k_ret ?_
  refine q_ret ?_
  obtain rfl := id H
  exact k_end rfl (.tmp rfl rfl .nil) rfl ⟨rfl, (hp0).aft⟩
 have H := iff_ h_1 H
 refine kq tb hp0 [] [(6, .bool (decide (a0 = 1)))] (by kernel_rfl) fun σ => ?_
 refine k_if (tm rfl rfl) (fun h_2 => ?_) (fun h_2 => ?_)
 ·have H := ift h_2 H
  refine kq tb hp0 [] [(2, .int .u32 8388608)] (by kernel_rfl) fun σ => ?_
  refine k_ret ?_
  refine q_ret ?_
  obtain rfl := id H
  exact k_end rfl (.tmp rfl rfl .nil) rfl ⟨rfl, (hp0).aft⟩
 have H := iff_ h_2 H
 refine kq tb hp0 [] [(8, .bool (decide (a0 = 2)))] (by kernel_rfl) fun σ => ?_
 refine k_if (tm rfl rfl) (fun h_3 => ?_) (fun h_3 => ?_)
 ·have H := ift h_3 H
  refine kq tb hp0 [] [(2, .int .u32 25296896)] (by kernel_rfl) fun σ => ?_
  refine k_ret ?_
  refine q_ret ?_
  obtain rfl := id H
  exact k_end rfl (.tmp rfl rfl .nil) rfl ⟨rfl, (hp0).aft⟩
 have H := iff_ h_3 H
 refine k_skip ?_
 refine kq tb hp0 [] [(2, .int .u32 8519680)] (by kernel_rfl) fun σ => ?_
 refine k_ret ?_
 obtain rfl := id H
 exact k_end rfl (.tmp rfl rfl .nil) rfl ⟨rfl, (hp0).aft⟩

/-! ### selvage/isa.Encode: function 18 -/
def isa_Encode.m (a0 : api_Inst) : Option (Int × Int) :=
 (isa_check.m ((isa_formOf.m a0.Op).1) a0).bind fun r_13 => (if (!decide (r_13 = 0)) = true then (some (0, r_13)) else ((if (decide (((isa_formOf.m a0.Op).1) = 1)) = true then (some (bits .or .u32 ((isa_formOf.m a0.Op).2) (bits .or .u32 (bits .or .u32 ((((a0.T) % 4294967296) * 2097152) % 4294967296) ((((a0.A) % 4294967296) * 65536) % 4294967296)) (bits .and .u32 ((a0.Imm) % 4294967296) 65535)))) else (if (decide (((isa_formOf.m a0.Op).1) = 2)) = true then (some (bits .or .u32 ((isa_formOf.m a0.Op).2) (bits .or .u32 (bits .or .u32 ((((a0.A) % 4294967296) * 2097152) % 4294967296) ((((a0.T) % 4294967296) * 65536) % 4294967296)) ((a0.Imm) % 4294967296)))) else (if (decide (((isa_formOf.m a0.Op).1) = 3)) = true then (some (bits .or .u32 ((isa_formOf.m a0.Op).2) (bits .or .u32 (bits .or .u32 (bits .or .u32 (bits .or .u32 (bits .or .u32 ((((a0.A) % 4294967296) * 2097152) % 4294967296) ((((a0.T) % 4294967296) * 65536) % 4294967296)) (((bits .and .u32 ((a0.Imm) % 4294967296) 31) * 2048) % 4294967296)) (((bits .and .u32 ((63 - ((a0.Imm) % 4294967296)) % 4294967296) 31) * 64) % 4294967296)) (((((63 - ((a0.Imm) % 4294967296)) % 4294967296) / 32) * 32) % 4294967296)) (((((a0.Imm) % 4294967296) / 32) * 2) % 4294967296)))) else (if (decide (((isa_formOf.m a0.Op).1) = 4)) = true then (some (bits .or .u32 ((isa_formOf.m a0.Op).2) (bits .or .u32 (bits .or .u32 ((((a0.T) % 4294967296) * 2097152) % 4294967296) ((((a0.A) % 4294967296) * 65536) % 4294967296)) ((((a0.B) % 4294967296) * 2048) % 4294967296)))) else (if (decide (((isa_formOf.m a0.Op).1) = 5)) = true then (some (bits .or .u32 ((isa_formOf.m a0.Op).2) (bits .or .u32 (bits .or .u32 ((((a0.T) % 4294967296) * 2097152) % 4294967296) ((((a0.A) % 4294967296) * 65536) % 4294967296)) (bits .and .u32 ((a0.Imm) % 4294967296) 65532)))) else (if (decide (((isa_formOf.m a0.Op).1) = 6)) = true then (some (bits .or .u32 ((isa_formOf.m a0.Op).2) (bits .or .u32 ((((a0.A) % 4294967296) * 65536) % 4294967296) ((((a0.B) % 4294967296) * 2048) % 4294967296)))) else (if (decide (((isa_formOf.m a0.Op).1) = 7)) = true then (some (bits .or .u32 ((isa_formOf.m a0.Op).2) (bits .or .u32 ((((a0.A) % 4294967296) * 65536) % 4294967296) (bits .and .u32 ((a0.Imm) % 4294967296) 65535)))) else (if (decide (((isa_formOf.m a0.Op).1) = 8)) = true then (some (bits .or .u32 ((isa_formOf.m a0.Op).2) (bits .or .u32 (isa_cond.m a0.T) (bits .and .u32 ((a0.Imm) % 4294967296) 65532)))) else (if (decide (((isa_formOf.m a0.Op).1) = 9)) = true then (some (bits .or .u32 ((isa_formOf.m a0.Op).2) (bits .and .u32 ((a0.Imm) % 4294967296) 67108860))) else (some ((isa_formOf.m a0.Op).2)))))))))) : Option Int).bind fun o_21 => some (o_21, 0)))
set_option maxHeartbeats 4000000 in
set_option maxRecDepth 100000 in
theorem isa_Encode.calls (a0 : api_Inst) (r : Int × Int) (w : World) (H : isa_Encode.m a0 = some r) :
 Ret Try.prog 18 [.agg #[.int .i64 a0.Op, .int .i64 a0.T, .int .i64 a0.A, .int .i64 a0.B, .int .i64 a0.Imm]] w fun v w' => v = .tuple #[.int .u32 r.1, .int .i64 r.2] ∧ Aft w w' [] [] := by
 unfold isa_Encode.m at H
 have hp0 := Hp.startR (F := no) (R := []) (Have.nil w) (fun _ h => h.elim)
 have ep0 := Ep.refl no [] w
 refine enter (L := [(0, .agg #[.int .i64 a0.Op, .int .i64 a0.T, .int .i64 a0.A, .int .i64 a0.B, .int .i64 a0.Imm])]) Try.func18 rfl Try.ntmps18 rfl rfl ?_
 refine k_seq ?_
 refine k_region ?_
 refine s_box (l := [.int .i64 a0.Op, .int .i64 a0.T, .int .i64 a0.A, .int .i64 a0.B, .int .i64 a0.Imm]) hp0 (tm rfl rfl) rfl rfl (fun b_1 w_2 hp_3 => ?_)
 refine sr tb hp_3 [] 2 [] (by kernel_rfl) fun σ => ?_
 refine k_nil ?_
 refine k_seq ?_
 refine k_region ?_
 refine sr tb hp_3 [(1, 0, 0)] 2 [(14, .int .i64 a0.Op)] (by kernel_rfl) fun σ => ?_
 refine s_call (.cons (tm rfl rfl) .nil) Try.call31 (isa_formOf.calls a0.Op _) rfl ?_
 rintro v_ w_7 ⟨rfl, af_10⟩
 have hp_8 := Hp.callA af_10 hp_3
 refine sv (v := .tuple #[.int .i64 ((isa_formOf.m a0.Op).1), .int .u32 ((isa_formOf.m a0.Op).2)]) rfl rfl rfl (e_move (tm rfl rfl)) ?_
 refine sr tb hp_8 [] 4 [(4, .int .i64 ((isa_formOf.m a0.Op).1)), (5, .int .u32 ((isa_formOf.m a0.Op).2))] (by kernel_rfl) fun σ => ?_
 refine k_nil ?_
 refine k_seq ?_
 refine k_seq ?_
 refine k_region ?_
 refine sr tb hp_8 [(1, 0, 0)] 2 [(18, .int .i64 ((isa_formOf.m a0.Op).1)), (19, .agg #[.int .i64 a0.Op, .int .i64 a0.T, .int .i64 a0.A, .int .i64 a0.B, .int .i64 a0.Imm])] (by kernel_rfl) fun σ => ?_
 obtain ⟨r_13, hx_12, H⟩ := bindSome H
 refine s_call (.cons (tm rfl rfl) (.cons (tm rfl rfl) .nil)) Try.call32 (isa_check.calls ((isa_formOf.m a0.Op).1) a0 r_13 _ hx_12) rfl ?_
 rintro v_ w_14 ⟨rfl, af_17⟩
 have hp_15 := Hp.callA af_17 hp_8
 refine sv (v := .int .i64 r_13) rfl rfl rfl (e_assign (tm rfl rfl)) ?_
 refine k_nil ?_
 refine kq tb hp_15 [] [(22, .bool (!decide (r_13 = 0)))] (by kernel_rfl) fun σ => ?_
 refine k_if (tm rfl rfl) (fun h_18 => ?_) (fun h_18 => ?_)
 ·have H := ift h_18 H
  refine kq tb hp_15 [] [(2, .int .u32 0), (3, .int .i64 r_13)] (by kernel_rfl) fun σ => ?_
  refine k_ret ?_
  obtain rfl := Option.some.inj H
  exact k_end rfl (.tmp rfl rfl (.tmp rfl rfl .nil)) rfl ⟨rfl, (hp_15.pick [] (by decide) rfl).aft⟩
 have H := iff_ h_18 H
 refine k_skip ?_
 refine k_seq ?_
 refine k_anyF [[0], [0], [0], [0], [0], [0], [0], [0], [0], [0], [0], [0], [0], [0], [0], [0], [0], [0], [0]] [0, 1, 3, 7, 0, 16, 48, 112, 0, 256, 768, 1792, 0, 4096, 12288, 15, 33023, 102399, 262143] mixed hp_15 19 (by kernel_rfl) (fun w_19 hp_20 => ?_)
 refine w_takes (f := 0) tb [0] (Wp.of hp_20 [0] rfl) [] [] [] [(1, 0, 0)] [] [0, 4, 8, 12, 1, 2, 3, 15, 5, 6, 7, 16, 9, 10, 11, 17, 13, 14, 18] 524287 [(7, .int .u32 ((((a0.T) % 4294967296) * 2097152) % 4294967296)), (8, .int .u32 ((((a0.A) % 4294967296) * 65536) % 4294967296)), (9, .int .u32 ((((a0.B) % 4294967296) * 2048) % 4294967296)), (10, .int .u32 ((a0.Imm) % 4294967296))] (fun _ => (po_then po_body)) rfl rfl (by kernel_rfl) fun σ => ?_
 refine w_done (by kernel_rfl) ?_
 refine k_seq ?_
 refine kq tb hp_20 [] [(39, .int .i64 ((isa_formOf.m a0.Op).1))] (by kernel_rfl) fun σ => ?_
 obtain ⟨o_21, H, G_22⟩ := bindSome H
 refine k_cut (fun a w' => ∃ (σ_44 : Nat → Value), a = st 147 [(5, .int .u32 o_21)] σ_44 [] ∧ Hp (On []) no w w w' []) ?_ ?_
 ·as_aux_lemma =>
  refine k_block ?_
  refine kq tb hp_20 [] [(40, .bool (decide (((isa_formOf.m a0.Op).1) = 1)))] (by kernel_rfl) fun σ => ?_
  refine k_if (tm rfl rfl) (fun h_23 => ?_) (fun h_23 => ?_)
  ·have H := ift h_23 H
   refine kr tb hp_20 [] [(5, .int .u32 (bits .or .u32 ((isa_formOf.m a0.Op).2) (bits .or .u32 (bits .or .u32 ((((a0.T) % 4294967296) * 2097152) % 4294967296) ((((a0.A) % 4294967296) * 65536) % 4294967296)) (bits .and .u32 ((a0.Imm) % 4294967296) 65535))))] (by kernel_rfl) fun σ => ?_
   obtain rfl := Option.some.inj H
   exact ⟨_, seenF ⟨rfl, trivial⟩, hp_20.pick [] (by decide) rfl⟩
  have H := iff_ h_23 H
  refine kq tb hp_20 [] [(50, .bool (decide (((isa_formOf.m a0.Op).1) = 2)))] (by kernel_rfl) fun σ => ?_
  refine k_if (tm rfl rfl) (fun h_24 => ?_) (fun h_24 => ?_)
  ·have H := ift h_24 H
   refine kr tb hp_20 [(1, 0, 0)] [(5, .int .u32 (bits .or .u32 ((isa_formOf.m a0.Op).2) (bits .or .u32 (bits .or .u32 ((((a0.A) % 4294967296) * 2097152) % 4294967296) ((((a0.T) % 4294967296) * 65536) % 4294967296)) ((a0.Imm) % 4294967296))))] (by kernel_rfl) fun σ => ?_
   obtain rfl := Option.some.inj H
   exact ⟨_, seenF ⟨rfl, trivial⟩, hp_20.pick [] (by decide) rfl⟩
  have H := iff_ h_24 H
  refine kq tb hp_20 [] [(65, .bool (decide (((isa_formOf.m a0.Op).1) = 3)))] (by kernel_rfl) fun σ => ?_
  refine k_if (tm rfl rfl) (fun h_25 => ?_) (fun h_25 => ?_)
  ·have H := ift h_25 H
   refine kq tb hp_20 [] [(11, .int .u32 ((63 - ((a0.Imm) % 4294967296)) % 4294967296))] (by kernel_rfl) fun σ => ?_
   refine kr tb hp_20 [(1, 0, 0)] [(5, .int .u32 (bits .or .u32 ((isa_formOf.m a0.Op).2) (bits .or .u32 (bits .or .u32 (bits .or .u32 (bits .or .u32 (bits .or .u32 ((((a0.A) % 4294967296) * 2097152) % 4294967296) ((((a0.T) % 4294967296) * 65536) % 4294967296)) (((bits .and .u32 ((a0.Imm) % 4294967296) 31) * 2048) % 4294967296)) (((bits .and .u32 ((63 - ((a0.Imm) % 4294967296)) % 4294967296) 31) * 64) % 4294967296)) (((((63 - ((a0.Imm) % 4294967296)) % 4294967296) / 32) * 32) % 4294967296)) (((((a0.Imm) % 4294967296) / 32) * 2) % 4294967296))))] (by kernel_rfl) fun σ => ?_
   obtain rfl := Option.some.inj H
   exact ⟨_, seenF ⟨rfl, trivial⟩, hp_20.pick [] (by decide) rfl⟩
  have H := iff_ h_25 H
  refine kq tb hp_20 [] [(96, .bool (decide (((isa_formOf.m a0.Op).1) = 4)))] (by kernel_rfl) fun σ => ?_
  refine k_if (tm rfl rfl) (fun h_26 => ?_) (fun h_26 => ?_)
  ·have H := ift h_26 H
   refine kr tb hp_20 [] [(5, .int .u32 (bits .or .u32 ((isa_formOf.m a0.Op).2) (bits .or .u32 (bits .or .u32 ((((a0.T) % 4294967296) * 2097152) % 4294967296) ((((a0.A) % 4294967296) * 65536) % 4294967296)) ((((a0.B) % 4294967296) * 2048) % 4294967296))))] (by kernel_rfl) fun σ => ?_
   obtain rfl := Option.some.inj H
   exact ⟨_, seenF ⟨rfl, trivial⟩, hp_20.pick [] (by decide) rfl⟩
  have H := iff_ h_26 H
  refine kq tb hp_20 [] [(105, .bool (decide (((isa_formOf.m a0.Op).1) = 5)))] (by kernel_rfl) fun σ => ?_
  refine k_if (tm rfl rfl) (fun h_27 => ?_) (fun h_27 => ?_)
  ·have H := ift h_27 H
   refine kr tb hp_20 [] [(5, .int .u32 (bits .or .u32 ((isa_formOf.m a0.Op).2) (bits .or .u32 (bits .or .u32 ((((a0.T) % 4294967296) * 2097152) % 4294967296) ((((a0.A) % 4294967296) * 65536) % 4294967296)) (bits .and .u32 ((a0.Imm) % 4294967296) 65532))))] (by kernel_rfl) fun σ => ?_
   obtain rfl := Option.some.inj H
   exact ⟨_, seenF ⟨rfl, trivial⟩, hp_20.pick [] (by decide) rfl⟩
  have H := iff_ h_27 H
  refine kq tb hp_20 [] [(115, .bool (decide (((isa_formOf.m a0.Op).1) = 6)))] (by kernel_rfl) fun σ => ?_
  refine k_if (tm rfl rfl) (fun h_28 => ?_) (fun h_28 => ?_)
  ·have H := ift h_28 H
   refine kr tb hp_20 [] [(5, .int .u32 (bits .or .u32 ((isa_formOf.m a0.Op).2) (bits .or .u32 ((((a0.A) % 4294967296) * 65536) % 4294967296) ((((a0.B) % 4294967296) * 2048) % 4294967296))))] (by kernel_rfl) fun σ => ?_
   obtain rfl := Option.some.inj H
   exact ⟨_, seenF ⟨rfl, trivial⟩, hp_20.pick [] (by decide) rfl⟩
  have H := iff_ h_28 H
  refine kq tb hp_20 [] [(122, .bool (decide (((isa_formOf.m a0.Op).1) = 7)))] (by kernel_rfl) fun σ => ?_
  refine k_if (tm rfl rfl) (fun h_29 => ?_) (fun h_29 => ?_)
  ·have H := ift h_29 H
   refine kr tb hp_20 [] [(5, .int .u32 (bits .or .u32 ((isa_formOf.m a0.Op).2) (bits .or .u32 ((((a0.A) % 4294967296) * 65536) % 4294967296) (bits .and .u32 ((a0.Imm) % 4294967296) 65535))))] (by kernel_rfl) fun σ => ?_
   obtain rfl := Option.some.inj H
   exact ⟨_, seenF ⟨rfl, trivial⟩, hp_20.pick [] (by decide) rfl⟩
  have H := iff_ h_29 H
  refine kq tb hp_20 [] [(130, .bool (decide (((isa_formOf.m a0.Op).1) = 8)))] (by kernel_rfl) fun σ => ?_
  refine k_if (tm rfl rfl) (fun h_30 => ?_) (fun h_30 => ?_)
  ·have H := ift h_30 H
   refine k_region ?_
   refine sr tb hp_20 [(1, 0, 0)] 3 [(132, .int .u32 ((isa_formOf.m a0.Op).2)), (134, .int .i64 a0.T)] (by kernel_rfl) fun σ => ?_
   refine s_call (.cons (tm rfl rfl) .nil) Try.call33 (isa_cond.calls a0.T _) rfl ?_
   rintro v_ w_34 ⟨rfl, af_37⟩
   have hp_35 := Hp.callA af_37 hp_20
   refine sr tb hp_35 [] 5 [(5, .int .u32 (bits .or .u32 ((isa_formOf.m a0.Op).2) (bits .or .u32 (isa_cond.m a0.T) (bits .and .u32 ((a0.Imm) % 4294967296) 65532))))] (by kernel_rfl) fun σ => ?_
   refine k_nil ?_
   obtain rfl := Option.some.inj H
   exact ⟨_, seenF ⟨rfl, trivial⟩, hp_35.pick [] (by decide) rfl⟩
  have H := iff_ h_30 H
  refine kq tb hp_20 [] [(140, .bool (decide (((isa_formOf.m a0.Op).1) = 9)))] (by kernel_rfl) fun σ => ?_
  refine k_if (tm rfl rfl) (fun h_38 => ?_) (fun h_38 => ?_)
  ·have H := ift h_38 H
   refine kr tb hp_20 [] [(5, .int .u32 (bits .or .u32 ((isa_formOf.m a0.Op).2) (bits .and .u32 ((a0.Imm) % 4294967296) 67108860)))] (by kernel_rfl) fun σ => ?_
   obtain rfl := Option.some.inj H
   exact ⟨_, seenF ⟨rfl, trivial⟩, hp_20.pick [] (by decide) rfl⟩
  have H := iff_ h_38 H
  refine k_skip ?_
  obtain rfl := Option.some.inj H
  exact ⟨_, seenF ⟨rfl, trivial⟩, hp_20.pick [] (by decide) rfl⟩
 clear H
 rintro a w' ⟨σ_39, rfl, hp_40⟩
 have H := G_22
 refine kq tb hp_40 [] [(2, .int .u32 o_21), (3, .int .i64 0)] (by kernel_rfl) fun σ => ?_
 refine k_ret ?_
 obtain rfl := Option.some.inj H
 exact k_end rfl (.tmp rfl rfl (.tmp rfl rfl .nil)) rfl ⟨rfl, (hp_40).aft⟩

/-! ### (*selvage/thread.thread).or: function 34 -/
def thread_thread_or.m (a0 : thread_thread) (a1 : Int) : Option thread_cell :=
 if (decide (a1 = 0)) = true then (some (⟨0, 0⟩ : thread_cell)) else (if 0 ≤ a1 ∧ a1 < (32 : Int) then (some (⟨(vg a0.regs a1).n, (vg a0.regs a1).hang⟩ : thread_cell)) else none)
set_option maxHeartbeats 4000000 in
set_option maxRecDepth 100000 in
theorem thread_thread_or.calls (a0 : thread_thread) (b_1 : Nat) (A_2 : Option Addr) (c_3 : Nat) (A_5 : Option Addr) (c_6 : Nat) (cs_8 : List Value) (cs_10 : List Value) (A_12 : Option Addr) (c_13 : Nat) (X_15 : Rsc) (a1 : Int) (r : thread_cell) (w : World) (F : Nat → Prop) (hF : ∀ k, F k → Off w [[(b_1, .cells (([.slice A_2 a0.code.length c_3, .int .i64 a0.locs, .int .i64 a0.base, .slice A_5 a0.answers.length c_6] : List Value) ++ (cs_8 ++ (([] : List Value) ++ (cs_10 ++ ([.bool a0.less, .bool a0.same, .int .u64 a0.held, .int .u64 a0.ctrl, .int .u64 a0.fenced, .int .i64 a0.hold, .int .i64 a0.event, .slice A_12 a0.out.length c_13] : List Value))))).toArray 59 (0, 0))], X_15] k) (hX : Have w [[(b_1, .cells (([.slice A_2 a0.code.length c_3, .int .i64 a0.locs, .int .i64 a0.base, .slice A_5 a0.answers.length c_6] : List Value) ++ (cs_8 ++ (([] : List Value) ++ (cs_10 ++ ([.bool a0.less, .bool a0.same, .int .u64 a0.held, .int .u64 a0.ctrl, .int .u64 a0.fenced, .int .i64 a0.hold, .int .i64 a0.event, .slice A_12 a0.out.length c_13] : List Value))))).toArray 59 (0, 0))], X_15]) (q_4 : RdS api_Inst_E F w A_2 c_3 a0.code) (q_7 : RdS (intE .i64) F w A_5 c_6 a0.answers) (q_9 : Reps thread_cell_E no wz a0.regs.toList cs_8) (q_11 : Reps thread_cell_E no wz a0.stack.toList cs_10) (q_14 : Own api_Event_E no wz 33 A_12 c_13 a0.out X_15) (H : thread_thread_or.m a0 a1 = some r) :
 Ret Try.prog 34 [.pointer (some ⟨b_1, 0, none⟩), .int .i64 a1] w fun v w' => v = .agg #[.int .i64 r.n, .int .u64 r.hang] ∧ Aft w w' [[(b_1, .cells (([.slice A_2 a0.code.length c_3, .int .i64 a0.locs, .int .i64 a0.base, .slice A_5 a0.answers.length c_6] : List Value) ++ (cs_8 ++ (([] : List Value) ++ (cs_10 ++ ([.bool a0.less, .bool a0.same, .int .u64 a0.held, .int .u64 a0.ctrl, .int .u64 a0.fenced, .int .i64 a0.hold, .int .i64 a0.event, .slice A_12 a0.out.length c_13] : List Value))))).toArray 59 (0, 0))], X_15] [[(b_1, .cells (([.slice A_2 a0.code.length c_3, .int .i64 a0.locs, .int .i64 a0.base, .slice A_5 a0.answers.length c_6] : List Value) ++ (cs_8 ++ (([] : List Value) ++ (cs_10 ++ ([.bool a0.less, .bool a0.same, .int .u64 a0.held, .int .u64 a0.ctrl, .int .u64 a0.fenced, .int .i64 a0.hold, .int .i64 a0.event, .slice A_12 a0.out.length c_13] : List Value))))).toArray 59 (0, 0))], X_15] := by
 unfold thread_thread_or.m at H
 have hp0 := Hp.startR hX hF
 have ep0 := Ep.refl F [[(b_1, .cells (([.slice A_2 a0.code.length c_3, .int .i64 a0.locs, .int .i64 a0.base, .slice A_5 a0.answers.length c_6] : List Value) ++ (cs_8 ++ (([] : List Value) ++ (cs_10 ++ ([.bool a0.less, .bool a0.same, .int .u64 a0.held, .int .u64 a0.ctrl, .int .u64 a0.fenced, .int .i64 a0.hold, .int .i64 a0.event, .slice A_12 a0.out.length c_13] : List Value))))).toArray 59 (0, 0))], X_15] w
 refine enter (L := [(0, .pointer (some ⟨b_1, 0, none⟩)), (1, .int .i64 a1)]) Try.func34 rfl Try.ntmps34 rfl rfl ?_
 refine k_seq ?_
 refine k_region ?_
 refine s_alloc (zv := .agg #[.int .i64 0, .int .u64 0]) (l := [.int .i64 0, .int .u64 0]) hp0 (by intro w_; kernel_rfl) rfl rfl (fun b_16 w_17 hp_18 => ?_)
 refine k_nil ?_
 refine k_seq ?_
 refine kq tb hp_18 [] [(6, .bool (decide (a1 = 0)))] (by kernel_rfl) fun σ => ?_
 refine k_if (tm rfl rfl) (fun h_19 => ?_) (fun h_19 => ?_)
 ·have H := ift h_19 H
  refine k_seq ?_
  refine k_region ?_
  refine sv (v := .agg #[.int .i64 0, .int .u64 0]) rfl rfl rfl (e_build (vs := []) (cs := [.int .i64 0, .int .u64 0]) .nil (by kernel_rfl)) ?_
  refine s_store (i := 2) (j := 0) (vs := [.int .i64 0, .int .u64 0]) (l' := [.int .i64 0, .int .u64 0]) hp_18 (tm rfl rfl) (tm rfl rfl) rfl Try.sizeOf55 rfl rfl rfl rfl rfl rfl (fun w_20 hp_21 => ?_)
  refine k_nil ?_
  refine k_ret ?_
  obtain rfl := Option.some.inj H
  exact k_end rfl (.cell rfl rfl (r_loadA Try.isAgg55 Try.sizeOf55 rfl (cells_box (sz := 2) (hp_21.get (i := 2) (j := 0) rfl rfl) rfl)) .nil) rfl ⟨rfl, (hp_21.pick [0, 1] (by decide) rfl).aft⟩
 have H := iff_ h_19 H
 refine k_skip ?_
 refine k_seq ?_
 refine k_region ?_
 obtain ⟨g_22, H⟩ := grd H
 obtain ⟨cs_24, rp_23, q_25⟩ := arr_elem q_9 g_22
 obtain rfl : cs_24 = [.int .i64 ((vg a0.regs a1).n), .int .u64 ((vg a0.regs a1).hang)] := rp_23
 refine srx tb hp_18 [⟨_, _, (arr_at (pre := ([.slice A_2 a0.code.length c_3, .int .i64 a0.locs, .int .i64 a0.base, .slice A_5 a0.answers.length c_6] : List Value)) (post := ([] : List Value) ++ (cs_10 ++ ([.bool a0.less, .bool a0.same, .int .u64 a0.held, .int .u64 a0.ctrl, .int .u64 a0.fenced, .int .i64 a0.hold, .int .i64 a0.event, .slice A_12 a0.out.length c_13] : List Value))) (hp_18.get (i := 0) (j := 0) rfl rfl) rfl rfl q_25)⟩] [.a 12 3 b_1 4 _ _ g_22] [] [(0, 0, 0)] [] 6 [(13, .agg #[.int .i64 ((vg a0.regs a1).n), .int .u64 ((vg a0.regs a1).hang)])] (by kernel_rfl) fun σ => ?_
 refine s_store (i := 2) (j := 0) (vs := [.int .i64 ((vg a0.regs a1).n), .int .u64 ((vg a0.regs a1).hang)]) (l' := [.int .i64 ((vg a0.regs a1).n), .int .u64 ((vg a0.regs a1).hang)]) hp_18 (tm rfl rfl) (tm rfl rfl) rfl Try.sizeOf55 rfl rfl rfl rfl rfl rfl (fun w_26 hp_27 => ?_)
 refine k_nil ?_
 refine k_ret ?_
 obtain rfl := Option.some.inj H
 exact k_end rfl (.cell rfl rfl (r_loadA Try.isAgg55 Try.sizeOf55 rfl (cells_box (sz := 2) (hp_27.get (i := 2) (j := 0) rfl rfl) rfl)) .nil) rfl ⟨rfl, (hp_27.pick [0, 1] (by decide) rfl).aft⟩

/-! ### selvage/thread.two: function 35 -/
def thread_two.m (a0 : Int) (a1 : thread_cell) (a2 : thread_cell) : thread_cell :=
 (⟨a0, bits .or .u64 a1.hang a2.hang⟩ : thread_cell)
set_option maxHeartbeats 4000000 in
set_option maxRecDepth 100000 in
theorem thread_two.calls (a0 : Int) (a1 : thread_cell) (a2 : thread_cell) (w : World) :
 Ret Try.prog 35 [.int .i64 a0, .agg #[.int .i64 a1.n, .int .u64 a1.hang], .agg #[.int .i64 a2.n, .int .u64 a2.hang]] w fun v w' => v = .agg #[.int .i64 ((thread_two.m a0 a1 a2).n), .int .u64 ((thread_two.m a0 a1 a2).hang)] ∧ Aft w w' [] [] := by
 obtain ⟨r, H⟩ : ∃ r, thread_two.m a0 a1 a2 = r := ⟨_, rfl⟩
 rw [H]
 unfold thread_two.m at H
 have hp0 := Hp.startR (F := no) (R := []) (Have.nil w) (fun _ h => h.elim)
 have ep0 := Ep.refl no [] w
 refine enter (L := [(0, .int .i64 a0), (1, .agg #[.int .i64 a1.n, .int .u64 a1.hang]), (2, .agg #[.int .i64 a2.n, .int .u64 a2.hang])]) Try.func35 rfl Try.ntmps35 rfl rfl ?_
 refine k_seq ?_
 refine k_region ?_
 refine s_box (l := [.int .i64 a1.n, .int .u64 a1.hang]) hp0 (tm rfl rfl) rfl rfl (fun b_1 w_2 hp_3 => ?_)
 refine s_box (l := [.int .i64 a2.n, .int .u64 a2.hang]) hp_3 (tm rfl rfl) rfl rfl (fun b_4 w_5 hp_6 => ?_)
 refine s_alloc (zv := .agg #[.int .i64 0, .int .u64 0]) (l := [.int .i64 0, .int .u64 0]) hp_6 (by intro w_; kernel_rfl) rfl rfl (fun b_7 w_8 hp_9 => ?_)
 refine k_nil ?_
 refine k_seq ?_
 refine k_region ?_
 refine sr tb hp_9 [(4, 0, 0), (5, 1, 0)] 7 [(13, .agg #[.int .i64 a0, .int .u64 (bits .or .u64 a1.hang a2.hang)])] (by kernel_rfl) fun σ => ?_
 refine s_store (i := 2) (j := 0) (vs := [.int .i64 a0, .int .u64 (bits .or .u64 a1.hang a2.hang)]) (l' := [.int .i64 a0, .int .u64 (bits .or .u64 a1.hang a2.hang)]) hp_9 (tm rfl rfl) (tm rfl rfl) rfl Try.sizeOf55 rfl rfl rfl rfl rfl rfl (fun w_10 hp_11 => ?_)
 refine k_nil ?_
 refine k_ret ?_
 obtain rfl := id H
 exact k_end rfl (.cell rfl rfl (r_loadA Try.isAgg55 Try.sizeOf55 rfl (cells_box (sz := 2) (hp_11.get (i := 2) (j := 0) rfl rfl) rfl)) .nil) rfl ⟨rfl, (hp_11.pick [] (by decide) rfl).aft⟩

/-! ### selvage/thread.quotient: function 36 -/
def thread_quotient.m (a0 : Int) (a1 : Int) : Option Int :=
 if (decide (a1 = 0)) = true then (some 0) else (if a1 ≠ 0 then (some (wrap64 (Int.tdiv a0 a1))) else none)
set_option maxHeartbeats 4000000 in
set_option maxRecDepth 100000 in
theorem thread_quotient.calls (a0 : Int) (a1 : Int) (r : Int) (w : World) (H : thread_quotient.m a0 a1 = some r) :
 Ret Try.prog 36 [.int .i64 a0, .int .i64 a1] w fun v w' => v = .int .i64 r ∧ Aft w w' [] [] := by
 unfold thread_quotient.m at H
 have hp0 := Hp.startR (F := no) (R := []) (Have.nil w) (fun _ h => h.elim)
 have ep0 := Ep.refl no [] w
 refine enter (L := [(0, .int .i64 a0), (1, .int .i64 a1)]) Try.func36 rfl Try.ntmps36 rfl rfl ?_
 refine kq tb hp0 [] [] (by kernel_rfl) fun σ => ?_
 refine k_seq ?_
 refine kq tb hp0 [] [(6, .bool (decide (a1 = 0)))] (by kernel_rfl) fun σ => ?_
 refine k_if (tm rfl rfl) (fun h_1 => ?_) (fun h_1 => ?_)
 ·have H := ift h_1 H
  refine kq tb hp0 [] [(4, .int .i64 0)] (by kernel_rfl) fun σ => ?_
  refine k_ret ?_
  obtain rfl := Option.some.inj H
  exact k_end rfl (.tmp rfl rfl .nil) rfl ⟨rfl, (hp0).aft⟩
 have H := iff_ h_1 H
 refine k_skip ?_
 refine k_seq ?_
 refine k_region ?_
 refine sr tb hp0 [] 2 [(7, .int .i64 a0), (8, .int .i64 a1)] (by kernel_rfl) fun σ => ?_
 obtain ⟨g_2, H⟩ := grd H
 refine sv (v := .int .i64 (wrap64 (Int.tdiv a0 a1))) rfl rfl rfl (e_bin (tm rfl rfl) (tm rfl rfl) (r_div (op := .not) g_2 (wrap_i64 _))) ?_
 refine sv (v := .int .i64 (wrap64 (Int.tdiv a0 a1))) rfl rfl rfl (e_assign (tm rfl rfl)) ?_
 refine k_nil ?_
 refine k_ret ?_
 obtain rfl := Option.some.inj H
 exact k_end rfl (.tmp rfl rfl .nil) rfl ⟨rfl, (hp0).aft⟩

/-! ### (*selvage/thread.thread).tell: function 40 -/
def thread_thread_tell.m (a0 : thread_thread) (a1 : api_Event) : Option ((Int × thread_thread) ⊕ thread_thread) :=
 if (decide ((a0.out.length : Int) = 64)) = true then (some (Sum.inl (5, a0))) else (if (a0.out.length + ([{ a1 with Ctrl := a0.ctrl, Fenced := a0.fenced }] : List api_Event).length) * 64 ≤ 140737488355328 then (some (Sum.inr { a0 with out := (a0.out ++ ([{ a1 with Ctrl := a0.ctrl, Fenced := a0.fenced }] : List api_Event)) })) else none)
set_option maxHeartbeats 4000000 in
set_option maxRecDepth 100000 in
theorem thread_thread_tell.calls_ (a0 : thread_thread) (b_1 : Nat) (A_2 : Option Addr) (c_3 : Nat) (A_5 : Option Addr) (c_6 : Nat) (cs_8 : List Value) (cs_10 : List Value) (A_12 : Option Addr) (c_13 : Nat) (X_15 : Rsc) (a1 : api_Event) (r : (Int × thread_thread) ⊕ thread_thread) (w : World) (F : Nat → Prop) (hF : ∀ k, F k → Off w [[(b_1, .cells (([.slice A_2 a0.code.length c_3, .int .i64 a0.locs, .int .i64 a0.base, .slice A_5 a0.answers.length c_6] : List Value) ++ (cs_8 ++ (([] : List Value) ++ (cs_10 ++ ([.bool a0.less, .bool a0.same, .int .u64 a0.held, .int .u64 a0.ctrl, .int .u64 a0.fenced, .int .i64 a0.hold, .int .i64 a0.event, .slice A_12 a0.out.length c_13] : List Value))))).toArray 59 (0, 0))], X_15] k) (hX : Have w [[(b_1, .cells (([.slice A_2 a0.code.length c_3, .int .i64 a0.locs, .int .i64 a0.base, .slice A_5 a0.answers.length c_6] : List Value) ++ (cs_8 ++ (([] : List Value) ++ (cs_10 ++ ([.bool a0.less, .bool a0.same, .int .u64 a0.held, .int .u64 a0.ctrl, .int .u64 a0.fenced, .int .i64 a0.hold, .int .i64 a0.event, .slice A_12 a0.out.length c_13] : List Value))))).toArray 59 (0, 0))], X_15]) (q_4 : RdS api_Inst_E F w A_2 c_3 a0.code) (q_7 : RdS (intE .i64) F w A_5 c_6 a0.answers) (q_9 : Reps thread_cell_E no wz a0.regs.toList cs_8) (q_11 : Reps thread_cell_E no wz a0.stack.toList cs_10) (q_14 : Own api_Event_E no wz 33 A_12 c_13 a0.out X_15) (H : thread_thread_tell.m a0 a1 = some r) :
 RetP Try.prog 40 [.pointer (some ⟨b_1, 0, none⟩), .agg #[.int .i64 a1.Kind, .int .i64 a1.Loc, .int .i64 a1.Val, .int .i64 a1.Pair, .int .u64 a1.Addr, .int .u64 a1.Data, .int .u64 a1.Ctrl, .int .u64 a1.Fenced]] w (fun v w' => ∃ r', r = Sum.inr r' ∧ ∃ (cs_1045 : List Value) (cs_1047 : List Value) (A_1049 : Option Addr) (c_1050 : Nat) (X_1052 : Rsc), v = .tuple #[] ∧ RdS api_Inst_E F w A_2 c_3 r'.code ∧ RdS (intE .i64) F w A_5 c_6 r'.answers ∧ Reps thread_cell_E no wz r'.regs.toList cs_1045 ∧ Reps thread_cell_E no wz r'.stack.toList cs_1047 ∧ Own api_Event_E no wz 33 A_1049 c_1050 r'.out X_1052 ∧ Aft w w' [[(b_1, .cells (([.slice A_2 a0.code.length c_3, .int .i64 a0.locs, .int .i64 a0.base, .slice A_5 a0.answers.length c_6] : List Value) ++ (cs_8 ++ (([] : List Value) ++ (cs_10 ++ ([.bool a0.less, .bool a0.same, .int .u64 a0.held, .int .u64 a0.ctrl, .int .u64 a0.fenced, .int .i64 a0.hold, .int .i64 a0.event, .slice A_12 a0.out.length c_13] : List Value))))).toArray 59 (0, 0))], X_15] [[(b_1, .cells (([.slice A_2 r'.code.length c_3, .int .i64 r'.locs, .int .i64 r'.base, .slice A_5 r'.answers.length c_6] : List Value) ++ (cs_1045 ++ (([] : List Value) ++ (cs_1047 ++ ([.bool r'.less, .bool r'.same, .int .u64 r'.held, .int .u64 r'.ctrl, .int .u64 r'.fenced, .int .i64 r'.hold, .int .i64 r'.event, .slice A_1049 r'.out.length c_1050] : List Value))))).toArray 59 (0, 0))], X_1052]) (fun c w' => ∃ p', r = Sum.inl p' ∧ ∃ (cs_1055 : List Value) (cs_1057 : List Value) (A_1059 : Option Addr) (c_1060 : Nat) (X_1062 : Rsc), c = [⟨.iface 60 (.int .i64 p'.1), false, false⟩] ∧ RdS api_Inst_E F w A_2 c_3 p'.2.code ∧ RdS (intE .i64) F w A_5 c_6 p'.2.answers ∧ Reps thread_cell_E no wz p'.2.regs.toList cs_1055 ∧ Reps thread_cell_E no wz p'.2.stack.toList cs_1057 ∧ Own api_Event_E no wz 33 A_1059 c_1060 p'.2.out X_1062 ∧ Aft w w' [[(b_1, .cells (([.slice A_2 a0.code.length c_3, .int .i64 a0.locs, .int .i64 a0.base, .slice A_5 a0.answers.length c_6] : List Value) ++ (cs_8 ++ (([] : List Value) ++ (cs_10 ++ ([.bool a0.less, .bool a0.same, .int .u64 a0.held, .int .u64 a0.ctrl, .int .u64 a0.fenced, .int .i64 a0.hold, .int .i64 a0.event, .slice A_12 a0.out.length c_13] : List Value))))).toArray 59 (0, 0))], X_15] [[(b_1, .cells (([.slice A_2 p'.2.code.length c_3, .int .i64 p'.2.locs, .int .i64 p'.2.base, .slice A_5 p'.2.answers.length c_6] : List Value) ++ (cs_1055 ++ (([] : List Value) ++ (cs_1057 ++ ([.bool p'.2.less, .bool p'.2.same, .int .u64 p'.2.held, .int .u64 p'.2.ctrl, .int .u64 p'.2.fenced, .int .i64 p'.2.hold, .int .i64 p'.2.event, .slice A_1059 p'.2.out.length c_1060] : List Value))))).toArray 59 (0, 0))], X_1062]) := by
 unfold thread_thread_tell.m at H
 have hp0 := Hp.startR hX hF
 have ep0 := Ep.refl F [[(b_1, .cells (([.slice A_2 a0.code.length c_3, .int .i64 a0.locs, .int .i64 a0.base, .slice A_5 a0.answers.length c_6] : List Value) ++ (cs_8 ++ (([] : List Value) ++ (cs_10 ++ ([.bool a0.less, .bool a0.same, .int .u64 a0.held, .int .u64 a0.ctrl, .int .u64 a0.fenced, .int .i64 a0.hold, .int .i64 a0.event, .slice A_12 a0.out.length c_13] : List Value))))).toArray 59 (0, 0))], X_15] w
 refine enter (L := [(0, .pointer (some ⟨b_1, 0, none⟩)), (1, .agg #[.int .i64 a1.Kind, .int .i64 a1.Loc, .int .i64 a1.Val, .int .i64 a1.Pair, .int .u64 a1.Addr, .int .u64 a1.Data, .int .u64 a1.Ctrl, .int .u64 a1.Fenced])]) Try.func40 rfl Try.ntmps40 rfl rfl ?_
 refine k_seq ?_
 refine k_region ?_
 refine s_box (l := [.int .i64 a1.Kind, .int .i64 a1.Loc, .int .i64 a1.Val, .int .i64 a1.Pair, .int .u64 a1.Addr, .int .u64 a1.Data, .int .u64 a1.Ctrl, .int .u64 a1.Fenced]) hp0 (tm rfl rfl) rfl rfl (fun b_16 w_17 hp_18 => ?_)
 refine k_nil ?_
 refine k_seq ?_
 refine kqx tb hp_18 [] [] [⟨0, 868, _, _, cells_box (sz := 8) (hp_18.get (i := 0) (j := 0) rfl rfl) (segs 4 864 8 rfl (segs 64 800 8 (arr_len q_9 rfl) (segs 0 800 8 rfl (segs 800 0 8 (arr_len q_11 rfl) rfl))))⟩] [(0, 0, 0)] [] [(9, .bool (decide ((a0.out.length : Int) = 64)))] (by kernel_rfl) fun σ => ?_
 refine k_if (tm rfl rfl) (fun h_19 => ?_) (fun h_19 => ?_)
 ·have H := ift h_19 H
  refine k_region ?_
  refine sv (v := .iface 60 (.int .i64 5)) rfl rfl rfl (e_makeIface rfl Try.runUnderlying60 rfl) ?_
  refine s_panic (tm rfl rfl) ?_
  obtain rfl := Option.some.inj H
  refine ⟨rfl, ?_⟩
  exact .inr ⟨_, rfl, _, rfl, ⟨cs_8, cs_10, A_12, c_13, X_15, rfl, q_4, q_7, q_9, q_11, q_14, (hp_18.pick [0, 1] (by decide) rfl).aft⟩⟩
 have H := iff_ h_19 H
 refine k_skip ?_
 refine k_seq ?_
 refine k_anyF [[0, 1], [0, 1], [0, 1], [0, 1], [0, 1], [0, 1], [0, 1], [0, 1], [0, 1], [0, 1], [0, 1], [0, 1]] [0, 1, 3, 7, 0, 16, 48, 112, 15, 271, 1023, 2047] mixed hp_18 12 (by kernel_rfl) (fun w_20 hp_21 => ?_)
 refine w_takes (f := 3) tb [0, 1] (Wp.of hp_21 [0, 1] rfl) [] [] [⟨0, 868, _, _, [0], fun w h => cells_box (sz := 8) (h.get (i := 0) (j := 0) rfl rfl) (segs 4 864 8 rfl (segs 64 800 8 (arr_len q_9 rfl) (segs 0 800 8 rfl (segs 800 0 8 (arr_len q_11 rfl) rfl))))⟩] [(0, 0, 0), (3, 2, 0)] [] [0, 1, 2, 4, 5, 6, 3, 8, 7] 511 [(14, .int .u64 a0.ctrl), (19, .pointer (some ⟨b_16, 6, none⟩)), (18, .int .u64 a0.fenced)] (fun _ => (po_then po_body)) rfl rfl (by kernel_rfl) fun σ => ?_
 refine w_one (m' := 1023) 9 rfl (by kernel_rfl) (by kernel_rfl) ?_
 refine s_store (i := 2) (j := 0) (vs := [.int .u64 a0.ctrl]) (l' := [.int .i64 a1.Kind, .int .i64 a1.Loc, .int .i64 a1.Val, .int .i64 a1.Pair, .int .u64 a1.Addr, .int .u64 a1.Data, .int .u64 a0.ctrl, .int .u64 a1.Fenced]) hp_21 (tm rfl rfl) (tm rfl rfl) rfl Try.sizeOf31 rfl rfl rfl rfl rfl rfl (fun w_22 hp_23 => ?_)
 refine k_nil ?_
 refine ⟨(Wp.of hp_23 [0, 1] rfl), ?_⟩
 refine w_take (m' := 2047) (v := .pointer (some ⟨b_16, 7, none⟩)) 10 rfl rfl (by kernel_rfl) (by kernel_rfl) (by kernel_rfl) (by kernel_rfl) (by kernel_rfl) (by kernel_rfl) (by kernel_rfl) (po_then po_body) (Wp.of hp_23 [0, 1] rfl) (y_val (fun w_ hW_ => e_fieldAddr (tm rfl rfl) Try.runUnderlying33 rfl Try.sizeOf31 rfl rfl)) ?_
 refine w_one (m' := 4095) 11 rfl (by kernel_rfl) (by kernel_rfl) ?_
 refine s_store (i := 2) (j := 0) (vs := [.int .u64 a0.fenced]) (l' := [.int .i64 a1.Kind, .int .i64 a1.Loc, .int .i64 a1.Val, .int .i64 a1.Pair, .int .u64 a1.Addr, .int .u64 a1.Data, .int .u64 a0.ctrl, .int .u64 a0.fenced]) hp_23 (tm rfl rfl) (tm rfl rfl) rfl Try.sizeOf31 rfl rfl rfl rfl rfl rfl (fun w_24 hp_25 => ?_)
 refine k_nil ?_
 refine ⟨(Wp.of hp_25 [0, 1] rfl), ?_⟩
 refine w_done (by kernel_rfl) ?_
 refine k_anyF [[0, 2], [0, 1, 2], [0, 1, 2], [0, 1, 2], [0, 1, 2], [0, 1, 2], [0, 1, 2], [0, 2], [0, 2], [0, 2], [2]] [0, 0, 2, 6, 14, 0, 32, 126, 255, 511, 1023] mixed hp_25 11 (by kernel_rfl) (fun w_26 hp_27 => ?_)
 refine w_takes (f := 5) tb [0, 1, 2] (Wp.of hp_27 [0, 1, 2] rfl) [] [] [⟨0, 868, _, _, [0], fun w h => cells_box (sz := 8) (h.get (i := 0) (j := 0) rfl rfl) (segs 4 864 8 rfl (segs 64 800 8 (arr_len q_9 rfl) (segs 0 800 8 rfl (segs 800 0 8 (arr_len q_11 rfl) rfl))))⟩] [(0, 0, 0), (3, 2, 0)] [] [0, 1, 2, 3, 4, 5] 63 [(21, .pointer (some ⟨b_1, 0, none⟩)), (25, .slice A_12 a0.out.length c_13), (26, .agg #[.int .i64 a1.Kind, .int .i64 a1.Loc, .int .i64 a1.Val, .int .i64 a1.Pair, .int .u64 a1.Addr, .int .u64 a1.Data, .int .u64 a0.ctrl, .int .u64 a0.fenced])] (fun _ => (po_then po_body)) rfl rfl (by kernel_rfl) fun σ => ?_
 refine w_one (m' := 127) 6 rfl (by kernel_rfl) (by kernel_rfl) ?_
 refine s_buildC (zv := .agg #[.int .i64 0, .int .i64 0, .int .i64 0, .int .i64 0, .int .u64 0, .int .u64 0, .int .u64 0, .int .u64 0]) (E := api_Event_E) (F := no) (wf := wz) (xs := ([{ a1 with Ctrl := a0.ctrl, Fenced := a0.fenced }] : List api_Event)) (cs := [.int .i64 a1.Kind, .int .i64 a1.Loc, .int .i64 a1.Val, .int .i64 a1.Pair, .int .u64 a1.Addr, .int .u64 a1.Data, .int .u64 a0.ctrl, .int .u64 a0.fenced]) (vs := [(0, .agg #[.int .i64 a1.Kind, .int .i64 a1.Loc, .int .i64 a1.Val, .int .i64 a1.Pair, .int .u64 a1.Addr, .int .u64 a1.Data, .int .u64 a0.ctrl, .int .u64 a0.fenced])]) hp_27 (.cons (tm rfl rfl) .nil) Try.runUnderlying26 Try.sizeOf33 (by intro w_; kernel_rfl) rfl rfl rfl (Reps.cat.2 rfl) rfl rfl rfl rfl (fun A_28 c_29 w_30 X_31 hp_32 O_33 => ?_)
 refine k_nil ?_
 refine ⟨(Wp.of hp_32 [0, 1, 2] rfl), ?_⟩
 refine w_one (m' := 255) 7 rfl (by kernel_rfl) (by kernel_rfl) ?_
 obtain ⟨g_34, H⟩ := grd H
 refine s_append (E := api_Event_E) (F := no) (wf := wz) (xs := a0.out) (ys := ([{ a1 with Ctrl := a0.ctrl, Fenced := a0.fenced }] : List api_Event)) (r := 1) hp_32 (tm rfl rfl) (tm rfl rfl) Try.underlying26 rfl rfl rfl rfl rfl rfl rfl q_14 (Own.src O_33 hp_32 (i := 3) rfl) g_34 rfl (fun A_35 c_36 w_37 X_38 hp_39 O_40 => ?_)
 refine k_nil ?_
 refine ⟨(Wp.of hp_39 [0, 2] rfl), ?_⟩
 refine w_takes (f := 1) tb [0, 2] (Wp.of hp_39 [0, 2] rfl) [] [] [] [(21, 0, 0)] [] [8, 9] 1023 [(30, .pointer (some ⟨b_1, 875, none⟩))] (fun _ => (po_then po_body)) rfl rfl (by kernel_rfl) fun σ => ?_
 refine w_one (m' := 2047) 10 rfl (by kernel_rfl) (by kernel_rfl) ?_
 refine s_store (i := 0) (j := 0) (vs := [.slice A_35 (a0.out ++ ([{ a1 with Ctrl := a0.ctrl, Fenced := a0.fenced }] : List api_Event)).length c_36]) (l' := (([.slice A_2 a0.code.length c_3, .int .i64 a0.locs, .int .i64 a0.base, .slice A_5 a0.answers.length c_6] : List Value) ++ (cs_8 ++ (([] : List Value) ++ (cs_10 ++ ([.bool a0.less, .bool a0.same, .int .u64 a0.held, .int .u64 a0.ctrl, .int .u64 a0.fenced, .int .i64 a0.hold, .int .i64 a0.event, .slice A_35 (a0.out ++ ([{ a1 with Ctrl := a0.ctrl, Fenced := a0.fenced }] : List api_Event)).length c_36] : List Value)))))) hp_39 (tm rfl rfl) (tm rfl rfl) rfl Try.sizeOf26 rfl rfl rfl rfl (ble_len (lenA rfl (lenA (arr_len q_9 rfl) (lenA rfl (lenA (arr_len q_11 rfl) rfl)))) rfl) (segu 4 871 rfl (segu 64 807 (arr_len q_9 rfl) (segu 0 807 rfl (segu 800 7 (arr_len q_11 rfl) rfl)))) (fun w_41 hp_42 => ?_)
 refine k_nil ?_
 refine ⟨(Wp.of hp_42 [2] rfl), ?_⟩
 refine w_done (by kernel_rfl) ?_
 obtain rfl := Option.some.inj H
 exact k_endPn rfl .nil rfl ⟨_, rfl, ⟨cs_8, cs_10, A_35, c_36, X_38, rfl, q_4, q_7, q_9, q_11, O_40, (hp_42.pick [0, 1] (by decide) rfl).aft⟩⟩
theorem thread_thread_tell.calls (a0 : thread_thread) (b_1 : Nat) (A_2 : Option Addr) (c_3 : Nat) (A_5 : Option Addr) (c_6 : Nat) (cs_8 : List Value) (cs_10 : List Value) (A_12 : Option Addr) (c_13 : Nat) (X_15 : Rsc) (a1 : api_Event) (r' : thread_thread) (w : World) (F : Nat → Prop) (hF : ∀ k, F k → Off w [[(b_1, .cells (([.slice A_2 a0.code.length c_3, .int .i64 a0.locs, .int .i64 a0.base, .slice A_5 a0.answers.length c_6] : List Value) ++ (cs_8 ++ (([] : List Value) ++ (cs_10 ++ ([.bool a0.less, .bool a0.same, .int .u64 a0.held, .int .u64 a0.ctrl, .int .u64 a0.fenced, .int .i64 a0.hold, .int .i64 a0.event, .slice A_12 a0.out.length c_13] : List Value))))).toArray 59 (0, 0))], X_15] k) (hX : Have w [[(b_1, .cells (([.slice A_2 a0.code.length c_3, .int .i64 a0.locs, .int .i64 a0.base, .slice A_5 a0.answers.length c_6] : List Value) ++ (cs_8 ++ (([] : List Value) ++ (cs_10 ++ ([.bool a0.less, .bool a0.same, .int .u64 a0.held, .int .u64 a0.ctrl, .int .u64 a0.fenced, .int .i64 a0.hold, .int .i64 a0.event, .slice A_12 a0.out.length c_13] : List Value))))).toArray 59 (0, 0))], X_15]) (q_4 : RdS api_Inst_E F w A_2 c_3 a0.code) (q_7 : RdS (intE .i64) F w A_5 c_6 a0.answers) (q_9 : Reps thread_cell_E no wz a0.regs.toList cs_8) (q_11 : Reps thread_cell_E no wz a0.stack.toList cs_10) (q_14 : Own api_Event_E no wz 33 A_12 c_13 a0.out X_15) (H : thread_thread_tell.m a0 a1 = some (Sum.inr r')) :
 Ret Try.prog 40 [.pointer (some ⟨b_1, 0, none⟩), .agg #[.int .i64 a1.Kind, .int .i64 a1.Loc, .int .i64 a1.Val, .int .i64 a1.Pair, .int .u64 a1.Addr, .int .u64 a1.Data, .int .u64 a1.Ctrl, .int .u64 a1.Fenced]] w fun v w' => ∃ (cs_1045 : List Value) (cs_1047 : List Value) (A_1049 : Option Addr) (c_1050 : Nat) (X_1052 : Rsc), v = .tuple #[] ∧ RdS api_Inst_E F w A_2 c_3 r'.code ∧ RdS (intE .i64) F w A_5 c_6 r'.answers ∧ Reps thread_cell_E no wz r'.regs.toList cs_1045 ∧ Reps thread_cell_E no wz r'.stack.toList cs_1047 ∧ Own api_Event_E no wz 33 A_1049 c_1050 r'.out X_1052 ∧ Aft w w' [[(b_1, .cells (([.slice A_2 a0.code.length c_3, .int .i64 a0.locs, .int .i64 a0.base, .slice A_5 a0.answers.length c_6] : List Value) ++ (cs_8 ++ (([] : List Value) ++ (cs_10 ++ ([.bool a0.less, .bool a0.same, .int .u64 a0.held, .int .u64 a0.ctrl, .int .u64 a0.fenced, .int .i64 a0.hold, .int .i64 a0.event, .slice A_12 a0.out.length c_13] : List Value))))).toArray 59 (0, 0))], X_15] [[(b_1, .cells (([.slice A_2 r'.code.length c_3, .int .i64 r'.locs, .int .i64 r'.base, .slice A_5 r'.answers.length c_6] : List Value) ++ (cs_1045 ++ (([] : List Value) ++ (cs_1047 ++ ([.bool r'.less, .bool r'.same, .int .u64 r'.held, .int .u64 r'.ctrl, .int .u64 r'.fenced, .int .i64 r'.hold, .int .i64 r'.event, .slice A_1049 r'.out.length c_1050] : List Value))))).toArray 59 (0, 0))], X_1052] := by
 exact (thread_thread_tell.calls_ _ _ _ _ _ _ _ _ _ _ _ _ _ _ _ hF hX q_4 q_7 q_9 q_11 q_14 H).ret (fun v w' ⟨_, hr, h⟩ => by cases hr; exact h) (fun c w' ⟨_, hr, _⟩ => by cases hr)
theorem thread_thread_tell.callsP (a0 : thread_thread) (b_1 : Nat) (A_2 : Option Addr) (c_3 : Nat) (A_5 : Option Addr) (c_6 : Nat) (cs_8 : List Value) (cs_10 : List Value) (A_12 : Option Addr) (c_13 : Nat) (X_15 : Rsc) (a1 : api_Event) (p' : Int × thread_thread) (w : World) (F : Nat → Prop) (hF : ∀ k, F k → Off w [[(b_1, .cells (([.slice A_2 a0.code.length c_3, .int .i64 a0.locs, .int .i64 a0.base, .slice A_5 a0.answers.length c_6] : List Value) ++ (cs_8 ++ (([] : List Value) ++ (cs_10 ++ ([.bool a0.less, .bool a0.same, .int .u64 a0.held, .int .u64 a0.ctrl, .int .u64 a0.fenced, .int .i64 a0.hold, .int .i64 a0.event, .slice A_12 a0.out.length c_13] : List Value))))).toArray 59 (0, 0))], X_15] k) (hX : Have w [[(b_1, .cells (([.slice A_2 a0.code.length c_3, .int .i64 a0.locs, .int .i64 a0.base, .slice A_5 a0.answers.length c_6] : List Value) ++ (cs_8 ++ (([] : List Value) ++ (cs_10 ++ ([.bool a0.less, .bool a0.same, .int .u64 a0.held, .int .u64 a0.ctrl, .int .u64 a0.fenced, .int .i64 a0.hold, .int .i64 a0.event, .slice A_12 a0.out.length c_13] : List Value))))).toArray 59 (0, 0))], X_15]) (q_4 : RdS api_Inst_E F w A_2 c_3 a0.code) (q_7 : RdS (intE .i64) F w A_5 c_6 a0.answers) (q_9 : Reps thread_cell_E no wz a0.regs.toList cs_8) (q_11 : Reps thread_cell_E no wz a0.stack.toList cs_10) (q_14 : Own api_Event_E no wz 33 A_12 c_13 a0.out X_15) (H : thread_thread_tell.m a0 a1 = some (Sum.inl p')) :
 Pan Try.prog 40 [.pointer (some ⟨b_1, 0, none⟩), .agg #[.int .i64 a1.Kind, .int .i64 a1.Loc, .int .i64 a1.Val, .int .i64 a1.Pair, .int .u64 a1.Addr, .int .u64 a1.Data, .int .u64 a1.Ctrl, .int .u64 a1.Fenced]] w fun c w' => ∃ (cs_1055 : List Value) (cs_1057 : List Value) (A_1059 : Option Addr) (c_1060 : Nat) (X_1062 : Rsc), c = [⟨.iface 60 (.int .i64 p'.1), false, false⟩] ∧ RdS api_Inst_E F w A_2 c_3 p'.2.code ∧ RdS (intE .i64) F w A_5 c_6 p'.2.answers ∧ Reps thread_cell_E no wz p'.2.regs.toList cs_1055 ∧ Reps thread_cell_E no wz p'.2.stack.toList cs_1057 ∧ Own api_Event_E no wz 33 A_1059 c_1060 p'.2.out X_1062 ∧ Aft w w' [[(b_1, .cells (([.slice A_2 a0.code.length c_3, .int .i64 a0.locs, .int .i64 a0.base, .slice A_5 a0.answers.length c_6] : List Value) ++ (cs_8 ++ (([] : List Value) ++ (cs_10 ++ ([.bool a0.less, .bool a0.same, .int .u64 a0.held, .int .u64 a0.ctrl, .int .u64 a0.fenced, .int .i64 a0.hold, .int .i64 a0.event, .slice A_12 a0.out.length c_13] : List Value))))).toArray 59 (0, 0))], X_15] [[(b_1, .cells (([.slice A_2 p'.2.code.length c_3, .int .i64 p'.2.locs, .int .i64 p'.2.base, .slice A_5 p'.2.answers.length c_6] : List Value) ++ (cs_1055 ++ (([] : List Value) ++ (cs_1057 ++ ([.bool p'.2.less, .bool p'.2.same, .int .u64 p'.2.held, .int .u64 p'.2.ctrl, .int .u64 p'.2.fenced, .int .i64 p'.2.hold, .int .i64 p'.2.event, .slice A_1059 p'.2.out.length c_1060] : List Value))))).toArray 59 (0, 0))], X_1062] := by
 exact (thread_thread_tell.calls_ _ _ _ _ _ _ _ _ _ _ _ _ _ _ _ hF hX q_4 q_7 q_9 q_11 q_14 H).pan (fun v w' ⟨_, hr, _⟩ => by cases hr) (fun c w' ⟨_, hr, h⟩ => by cases hr; exact h)

/-! ### (*selvage/thread.thread).place: function 56 -/
def thread_thread_place.m (a0 : thread_thread) (a1 : Int) : Option (Int ⊕ Int) :=
 if (((decide ((wrap64 (a1 - 65536)) ≥ 0)) && (decide ((wrap64 (a1 - 65536)) < (wrap64 (8 * a0.locs))))) && (decide ((Int.tmod (wrap64 (a1 - 65536)) 8) = 0))) = true then (some (Sum.inr (wrap64 (Int.tdiv (wrap64 (a1 - 65536)) 8)))) else (if (((decide ((wrap64 (a1 - a0.base)) ≥ 0)) && (decide ((wrap64 (a1 - a0.base)) < 3200))) && (decide ((Int.tmod (wrap64 (a1 - a0.base)) 8) = 0))) = true then (some (Sum.inr (wrap64 ((-1) - (wrap64 (Int.tdiv (wrap64 (a1 - a0.base)) 8)))))) else (some (Sum.inl 6)))
set_option maxHeartbeats 4000000 in
set_option maxRecDepth 100000 in
theorem thread_thread_place.calls_ (a0 : thread_thread) (b_1 : Nat) (A_2 : Option Addr) (c_3 : Nat) (A_5 : Option Addr) (c_6 : Nat) (cs_8 : List Value) (cs_10 : List Value) (A_12 : Option Addr) (c_13 : Nat) (X_15 : Rsc) (a1 : Int) (r : Int ⊕ Int) (w : World) (F : Nat → Prop) (hF : ∀ k, F k → Off w [[(b_1, .cells (([.slice A_2 a0.code.length c_3, .int .i64 a0.locs, .int .i64 a0.base, .slice A_5 a0.answers.length c_6] : List Value) ++ (cs_8 ++ (([] : List Value) ++ (cs_10 ++ ([.bool a0.less, .bool a0.same, .int .u64 a0.held, .int .u64 a0.ctrl, .int .u64 a0.fenced, .int .i64 a0.hold, .int .i64 a0.event, .slice A_12 a0.out.length c_13] : List Value))))).toArray 59 (0, 0))], X_15] k) (hX : Have w [[(b_1, .cells (([.slice A_2 a0.code.length c_3, .int .i64 a0.locs, .int .i64 a0.base, .slice A_5 a0.answers.length c_6] : List Value) ++ (cs_8 ++ (([] : List Value) ++ (cs_10 ++ ([.bool a0.less, .bool a0.same, .int .u64 a0.held, .int .u64 a0.ctrl, .int .u64 a0.fenced, .int .i64 a0.hold, .int .i64 a0.event, .slice A_12 a0.out.length c_13] : List Value))))).toArray 59 (0, 0))], X_15]) (q_4 : RdS api_Inst_E F w A_2 c_3 a0.code) (q_7 : RdS (intE .i64) F w A_5 c_6 a0.answers) (q_9 : Reps thread_cell_E no wz a0.regs.toList cs_8) (q_11 : Reps thread_cell_E no wz a0.stack.toList cs_10) (q_14 : Own api_Event_E no wz 33 A_12 c_13 a0.out X_15) (H : thread_thread_place.m a0 a1 = some r) :
 RetP Try.prog 56 [.pointer (some ⟨b_1, 0, none⟩), .int .i64 a1] w (fun v w' => ∃ r', r = Sum.inr r' ∧ v = .int .i64 r' ∧ Aft w w' [[(b_1, .cells (([.slice A_2 a0.code.length c_3, .int .i64 a0.locs, .int .i64 a0.base, .slice A_5 a0.answers.length c_6] : List Value) ++ (cs_8 ++ (([] : List Value) ++ (cs_10 ++ ([.bool a0.less, .bool a0.same, .int .u64 a0.held, .int .u64 a0.ctrl, .int .u64 a0.fenced, .int .i64 a0.hold, .int .i64 a0.event, .slice A_12 a0.out.length c_13] : List Value))))).toArray 59 (0, 0))], X_15] [[(b_1, .cells (([.slice A_2 a0.code.length c_3, .int .i64 a0.locs, .int .i64 a0.base, .slice A_5 a0.answers.length c_6] : List Value) ++ (cs_8 ++ (([] : List Value) ++ (cs_10 ++ ([.bool a0.less, .bool a0.same, .int .u64 a0.held, .int .u64 a0.ctrl, .int .u64 a0.fenced, .int .i64 a0.hold, .int .i64 a0.event, .slice A_12 a0.out.length c_13] : List Value))))).toArray 59 (0, 0))], X_15]) (fun c w' => ∃ p', r = Sum.inl p' ∧ c = [⟨.iface 60 (.int .i64 p'), false, false⟩] ∧ Aft w w' [[(b_1, .cells (([.slice A_2 a0.code.length c_3, .int .i64 a0.locs, .int .i64 a0.base, .slice A_5 a0.answers.length c_6] : List Value) ++ (cs_8 ++ (([] : List Value) ++ (cs_10 ++ ([.bool a0.less, .bool a0.same, .int .u64 a0.held, .int .u64 a0.ctrl, .int .u64 a0.fenced, .int .i64 a0.hold, .int .i64 a0.event, .slice A_12 a0.out.length c_13] : List Value))))).toArray 59 (0, 0))], X_15] [[(b_1, .cells (([.slice A_2 a0.code.length c_3, .int .i64 a0.locs, .int .i64 a0.base, .slice A_5 a0.answers.length c_6] : List Value) ++ (cs_8 ++ (([] : List Value) ++ (cs_10 ++ ([.bool a0.less, .bool a0.same, .int .u64 a0.held, .int .u64 a0.ctrl, .int .u64 a0.fenced, .int .i64 a0.hold, .int .i64 a0.event, .slice A_12 a0.out.length c_13] : List Value))))).toArray 59 (0, 0))], X_15]) := by
 unfold thread_thread_place.m at H
 have hp0 := Hp.startR hX hF
 have ep0 := Ep.refl F [[(b_1, .cells (([.slice A_2 a0.code.length c_3, .int .i64 a0.locs, .int .i64 a0.base, .slice A_5 a0.answers.length c_6] : List Value) ++ (cs_8 ++ (([] : List Value) ++ (cs_10 ++ ([.bool a0.less, .bool a0.same, .int .u64 a0.held, .int .u64 a0.ctrl, .int .u64 a0.fenced, .int .i64 a0.hold, .int .i64 a0.event, .slice A_12 a0.out.length c_13] : List Value))))).toArray 59 (0, 0))], X_15] w
 refine enter (L := [(0, .pointer (some ⟨b_1, 0, none⟩)), (1, .int .i64 a1)]) Try.func56 rfl Try.ntmps56 rfl rfl ?_
 refine kq tb hp0 [] [] (by kernel_rfl) fun σ => ?_
 refine k_seq ?_
 refine kq tb hp0 [] [(5, .int .i64 (wrap64 (a1 - 65536)))] (by kernel_rfl) fun σ => ?_
 refine kq tb hp0 [(0, 0, 0)] [(24, .bool (((decide ((wrap64 (a1 - 65536)) ≥ 0)) && (decide ((wrap64 (a1 - 65536)) < (wrap64 (8 * a0.locs))))) && (decide ((Int.tmod (wrap64 (a1 - 65536)) 8) = 0))))] (by kernel_rfl) fun σ => ?_
 refine k_if (tm rfl rfl) (fun h_16 => ?_) (fun h_16 => ?_)
 ·have H := ift h_16 H
  refine kq tb hp0 [] [(4, .int .i64 (wrap64 (Int.tdiv (wrap64 (a1 - 65536)) 8)))] (by kernel_rfl) fun σ => ?_
  refine k_ret ?_
  obtain rfl := Option.some.inj H
  exact k_endP rfl (.tmp rfl rfl .nil) rfl ⟨_, rfl, ⟨rfl, (hp0).aft⟩⟩
 have H := iff_ h_16 H
 refine k_skip ?_
 refine k_seq ?_
 refine kq tb hp0 [(0, 0, 0)] [(6, .int .i64 (wrap64 (a1 - a0.base)))] (by kernel_rfl) fun σ => ?_
 refine kq tb hp0 [] [(43, .bool (((decide ((wrap64 (a1 - a0.base)) ≥ 0)) && (decide ((wrap64 (a1 - a0.base)) < 3200))) && (decide ((Int.tmod (wrap64 (a1 - a0.base)) 8) = 0))))] (by kernel_rfl) fun σ => ?_
 refine k_if (tm rfl rfl) (fun h_17 => ?_) (fun h_17 => ?_)
 ·have H := ift h_17 H
  refine kq tb hp0 [] [(4, .int .i64 (wrap64 ((-1) - (wrap64 (Int.tdiv (wrap64 (a1 - a0.base)) 8)))))] (by kernel_rfl) fun σ => ?_
  refine k_ret ?_
  obtain rfl := Option.some.inj H
  exact k_endP rfl (.tmp rfl rfl .nil) rfl ⟨_, rfl, ⟨rfl, (hp0).aft⟩⟩
 have H := iff_ h_17 H
 refine k_skip ?_
 refine k_region ?_
 refine sv (v := .iface 60 (.int .i64 6)) rfl rfl rfl (e_makeIface rfl Try.runUnderlying60 rfl) ?_
 refine s_panic (tm rfl rfl) ?_
 obtain rfl := Option.some.inj H
 refine ⟨rfl, ?_⟩
 exact .inr ⟨_, rfl, _, rfl, ⟨rfl, (hp0).aft⟩⟩
theorem thread_thread_place.calls (a0 : thread_thread) (b_1 : Nat) (A_2 : Option Addr) (c_3 : Nat) (A_5 : Option Addr) (c_6 : Nat) (cs_8 : List Value) (cs_10 : List Value) (A_12 : Option Addr) (c_13 : Nat) (X_15 : Rsc) (a1 : Int) (r' : Int) (w : World) (F : Nat → Prop) (hF : ∀ k, F k → Off w [[(b_1, .cells (([.slice A_2 a0.code.length c_3, .int .i64 a0.locs, .int .i64 a0.base, .slice A_5 a0.answers.length c_6] : List Value) ++ (cs_8 ++ (([] : List Value) ++ (cs_10 ++ ([.bool a0.less, .bool a0.same, .int .u64 a0.held, .int .u64 a0.ctrl, .int .u64 a0.fenced, .int .i64 a0.hold, .int .i64 a0.event, .slice A_12 a0.out.length c_13] : List Value))))).toArray 59 (0, 0))], X_15] k) (hX : Have w [[(b_1, .cells (([.slice A_2 a0.code.length c_3, .int .i64 a0.locs, .int .i64 a0.base, .slice A_5 a0.answers.length c_6] : List Value) ++ (cs_8 ++ (([] : List Value) ++ (cs_10 ++ ([.bool a0.less, .bool a0.same, .int .u64 a0.held, .int .u64 a0.ctrl, .int .u64 a0.fenced, .int .i64 a0.hold, .int .i64 a0.event, .slice A_12 a0.out.length c_13] : List Value))))).toArray 59 (0, 0))], X_15]) (q_4 : RdS api_Inst_E F w A_2 c_3 a0.code) (q_7 : RdS (intE .i64) F w A_5 c_6 a0.answers) (q_9 : Reps thread_cell_E no wz a0.regs.toList cs_8) (q_11 : Reps thread_cell_E no wz a0.stack.toList cs_10) (q_14 : Own api_Event_E no wz 33 A_12 c_13 a0.out X_15) (H : thread_thread_place.m a0 a1 = some (Sum.inr r')) :
 Ret Try.prog 56 [.pointer (some ⟨b_1, 0, none⟩), .int .i64 a1] w fun v w' => v = .int .i64 r' ∧ Aft w w' [[(b_1, .cells (([.slice A_2 a0.code.length c_3, .int .i64 a0.locs, .int .i64 a0.base, .slice A_5 a0.answers.length c_6] : List Value) ++ (cs_8 ++ (([] : List Value) ++ (cs_10 ++ ([.bool a0.less, .bool a0.same, .int .u64 a0.held, .int .u64 a0.ctrl, .int .u64 a0.fenced, .int .i64 a0.hold, .int .i64 a0.event, .slice A_12 a0.out.length c_13] : List Value))))).toArray 59 (0, 0))], X_15] [[(b_1, .cells (([.slice A_2 a0.code.length c_3, .int .i64 a0.locs, .int .i64 a0.base, .slice A_5 a0.answers.length c_6] : List Value) ++ (cs_8 ++ (([] : List Value) ++ (cs_10 ++ ([.bool a0.less, .bool a0.same, .int .u64 a0.held, .int .u64 a0.ctrl, .int .u64 a0.fenced, .int .i64 a0.hold, .int .i64 a0.event, .slice A_12 a0.out.length c_13] : List Value))))).toArray 59 (0, 0))], X_15] := by
 exact (thread_thread_place.calls_ _ _ _ _ _ _ _ _ _ _ _ _ _ _ _ hF hX q_4 q_7 q_9 q_11 q_14 H).ret (fun v w' ⟨_, hr, h⟩ => by cases hr; exact h) (fun c w' ⟨_, hr, _⟩ => by cases hr)
theorem thread_thread_place.callsP (a0 : thread_thread) (b_1 : Nat) (A_2 : Option Addr) (c_3 : Nat) (A_5 : Option Addr) (c_6 : Nat) (cs_8 : List Value) (cs_10 : List Value) (A_12 : Option Addr) (c_13 : Nat) (X_15 : Rsc) (a1 : Int) (p' : Int) (w : World) (F : Nat → Prop) (hF : ∀ k, F k → Off w [[(b_1, .cells (([.slice A_2 a0.code.length c_3, .int .i64 a0.locs, .int .i64 a0.base, .slice A_5 a0.answers.length c_6] : List Value) ++ (cs_8 ++ (([] : List Value) ++ (cs_10 ++ ([.bool a0.less, .bool a0.same, .int .u64 a0.held, .int .u64 a0.ctrl, .int .u64 a0.fenced, .int .i64 a0.hold, .int .i64 a0.event, .slice A_12 a0.out.length c_13] : List Value))))).toArray 59 (0, 0))], X_15] k) (hX : Have w [[(b_1, .cells (([.slice A_2 a0.code.length c_3, .int .i64 a0.locs, .int .i64 a0.base, .slice A_5 a0.answers.length c_6] : List Value) ++ (cs_8 ++ (([] : List Value) ++ (cs_10 ++ ([.bool a0.less, .bool a0.same, .int .u64 a0.held, .int .u64 a0.ctrl, .int .u64 a0.fenced, .int .i64 a0.hold, .int .i64 a0.event, .slice A_12 a0.out.length c_13] : List Value))))).toArray 59 (0, 0))], X_15]) (q_4 : RdS api_Inst_E F w A_2 c_3 a0.code) (q_7 : RdS (intE .i64) F w A_5 c_6 a0.answers) (q_9 : Reps thread_cell_E no wz a0.regs.toList cs_8) (q_11 : Reps thread_cell_E no wz a0.stack.toList cs_10) (q_14 : Own api_Event_E no wz 33 A_12 c_13 a0.out X_15) (H : thread_thread_place.m a0 a1 = some (Sum.inl p')) :
 Pan Try.prog 56 [.pointer (some ⟨b_1, 0, none⟩), .int .i64 a1] w fun c w' => c = [⟨.iface 60 (.int .i64 p'), false, false⟩] ∧ Aft w w' [[(b_1, .cells (([.slice A_2 a0.code.length c_3, .int .i64 a0.locs, .int .i64 a0.base, .slice A_5 a0.answers.length c_6] : List Value) ++ (cs_8 ++ (([] : List Value) ++ (cs_10 ++ ([.bool a0.less, .bool a0.same, .int .u64 a0.held, .int .u64 a0.ctrl, .int .u64 a0.fenced, .int .i64 a0.hold, .int .i64 a0.event, .slice A_12 a0.out.length c_13] : List Value))))).toArray 59 (0, 0))], X_15] [[(b_1, .cells (([.slice A_2 a0.code.length c_3, .int .i64 a0.locs, .int .i64 a0.base, .slice A_5 a0.answers.length c_6] : List Value) ++ (cs_8 ++ (([] : List Value) ++ (cs_10 ++ ([.bool a0.less, .bool a0.same, .int .u64 a0.held, .int .u64 a0.ctrl, .int .u64 a0.fenced, .int .i64 a0.hold, .int .i64 a0.event, .slice A_12 a0.out.length c_13] : List Value))))).toArray 59 (0, 0))], X_15] := by
 exact (thread_thread_place.calls_ _ _ _ _ _ _ _ _ _ _ _ _ _ _ _ hF hX q_4 q_7 q_9 q_11 q_14 H).pan (fun v w' ⟨_, hr, _⟩ => by cases hr) (fun c w' ⟨_, hr, h⟩ => by cases hr; exact h)

end Go.Proofs.Ytcnchjlomcafeaa.W

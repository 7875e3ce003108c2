/- Functions of the program as plain Lean functions, and that the calls do what they say: written by wip/tools/walk.py. -/
import Derived.Test.YtallojficgiemaaTy
import Derived.Test.YtallojficgiemaaF0
import Derived.Test.YtallojficgiemaaF1
import Derived.Test.YtallojficgiemaaF2
import Derived.Test.YtallojficgiemaaF3
import Derived.Test.YtallojficgiemaaF4
import Derived.Test.YtallojficgiemaaF5
import Derived.Test.YtallojficgiemaaF6
import Derived.Test.YtallojficgiemaaF7
import Derived.Test.YtallojficgiemaaF8
import Derived.Test.YtallojficgiemaaF9
import Derived.Test.YtallojficgiemaaF10
import Derived.Test.YtallojficgiemaaF11
import Derived.Test.YtallojficgiemaaF12
import Derived.Test.YtallojficgiemaaF13
import Derived.Test.YtallojficgiemaaF14
import Derived.Test.YtallojficgiemaaF15
import Derived.Test.YtallojficgiemaaF16
import Derived.Test.YtallojficgiemaaF17
set_option linter.unusedVariables false
set_option linter.unusedSimpArgs false
set_option linter.unusedSectionVars false
namespace Go.Proofs.Ytallojficgiemaa.W
open Go Go.RowKit Go.Proofs.Ytallojficgiemaa.B
attribute [local irreducible] Go.wpList Go.Code.wp Go.Region.wanted Go.yielded
/-! ### selvage/selvagelaw15.IsaEncodes: function 3 -/
def selvagelaw15_IsaEncodes.m (k : Nat) (a0 : api_Inst) : Option (Bool) := (selvagelaw15_awake.m k).bind fun r7 => (if (!r7) = true then (some false) else ((isa_Encode.m a0).bind fun r12 => ((selvageref15_Encode.m k a0).bind fun r16 => (some ((decide (r12.1 = r16.1)) && (decide (r12.2 = r16.2)))))))
set_option maxHeartbeats 4000000 in
set_option maxRecDepth 100000 in
theorem selvagelaw15_IsaEncodes.calls (k : Nat) (a0 : api_Inst) (r : Bool) (w : World) (H : selvagelaw15_IsaEncodes.m k a0 = some r) :
    Ret Try.prog 3 [.agg #[.int .i64 a0.Op, .int .i64 a0.T, .int .i64 a0.A, .int .i64 a0.B, .int .i64 a0.Imm]] w fun v w' => v = .bool r ∧ Below w.heap.size w w' := by
  unfold selvagelaw15_IsaEncodes.m at H
  have hp0 := Hp.start w
  refine enter (L := [(0, .agg #[.int .i64 a0.Op, .int .i64 a0.T, .int .i64 a0.A, .int .i64 a0.B, .int .i64 a0.Imm])]) Try.func3 rfl Try.ntmps3 rfl rfl ?_
  refine k_seq ?_
  refine k_region ?_
  refine s_box hp0 (tm rfl rfl) rfl rfl (fun b1 w2 hp3 => ?_)
  refine sv (v := .bool false) rfl rfl rfl (e_assign rfl) ?_
  refine k_nil ?_
  refine k_seq ?_
  refine k_seq ?_
  refine k_region ?_
  obtain ⟨r7, hx19, H⟩ := bindSome H
  refine s_call .nil Try.call7 (selvagelaw15_awake.calls k r7 _ hx19) rfl ?_
  rintro v_ w4 ⟨rfl, hb5⟩
  have hp6 := hp3.grow hb5
  refine sv (v := .bool (!r7)) rfl rfl rfl (e_un (tm rfl rfl) (r_not rfl)) ?_
  refine k_nil ?_
  refine k_if (tm rfl rfl) (fun h8 => ?_) (fun h8 => ?_)
  · have H := ift h8 H
    refine k_seq ?_
    refine k_region ?_
    refine sv (v := .bool false) rfl rfl rfl (e_assign rfl) ?_
    refine k_nil ?_
    refine k_ret ?_
    obtain rfl := Option.some.inj H
    exact k_end rfl (.tmp rfl rfl .nil) rfl ⟨rfl, hp6.below⟩
  have H := iff_ h8 H
  refine k_skip ?_
  refine k_seq ?_
  refine k_region ?_
  refine sv (v := .agg #[.int .i64 a0.Op, .int .i64 a0.T, .int .i64 a0.A, .int .i64 a0.B, .int .i64 a0.Imm]) rfl rfl rfl (e_loadA (tm rfl rfl) Try.isAgg23 Try.sizeOf23 rfl (cells_box (sz := 5) (hp6.get (i := 0) (j := 0) rfl rfl) rfl)) ?_
  obtain ⟨r12, hx18, H⟩ := bindSome H
  refine s_call (.cons (tm rfl rfl) .nil) Try.call8 (isa_Encode.calls a0 r12 _ hx18) rfl ?_
  rintro v_ w9 ⟨rfl, hb10⟩
  have hp11 := hp6.grow hb10
  refine sv (v := .tuple #[.int .u32 r12.1, .int .i64 r12.2]) rfl rfl rfl (e_move (tm rfl rfl)) ?_
  refine sv (v := .int .u32 r12.1) rfl rfl rfl (e_extract (tm rfl rfl) rfl) ?_
  refine sv (v := .int .i64 r12.2) rfl rfl rfl (e_extract (tm rfl rfl) rfl) ?_
  refine sv (v := .int .u32 r12.1) rfl rfl rfl (e_assign (tm rfl rfl)) ?_
  refine sv (v := .int .i64 r12.2) rfl rfl rfl (e_assign (tm rfl rfl)) ?_
  refine k_nil ?_
  refine k_seq ?_
  refine k_region ?_
  refine sv (v := .agg #[.int .i64 a0.Op, .int .i64 a0.T, .int .i64 a0.A, .int .i64 a0.B, .int .i64 a0.Imm]) rfl rfl rfl (e_loadA (tm rfl rfl) Try.isAgg23 Try.sizeOf23 rfl (cells_box (sz := 5) (hp11.get (i := 0) (j := 0) rfl rfl) rfl)) ?_
  obtain ⟨r16, hx17, H⟩ := bindSome H
  refine s_call (.cons (tm rfl rfl) .nil) Try.call9 (selvageref15_Encode.calls k a0 r16 _ hx17) rfl ?_
  rintro v_ w13 ⟨rfl, hb14⟩
  have hp15 := hp11.grow hb14
  refine sv (v := .tuple #[.int .u32 r16.1, .int .i64 r16.2]) rfl rfl rfl (e_move (tm rfl rfl)) ?_
  refine sv (v := .int .u32 r16.1) rfl rfl rfl (e_extract (tm rfl rfl) rfl) ?_
  refine sv (v := .int .i64 r16.2) rfl rfl rfl (e_extract (tm rfl rfl) rfl) ?_
  refine sv (v := .int .u32 r16.1) rfl rfl rfl (e_assign (tm rfl rfl)) ?_
  refine sv (v := .int .i64 r16.2) rfl rfl rfl (e_assign (tm rfl rfl)) ?_
  refine k_nil ?_
  refine k_seq ?_
  refine k_region ?_
  refine sv (v := .int .u32 r12.1) rfl rfl rfl (e_move (tm rfl rfl)) ?_
  refine sv (v := .int .u32 r16.1) rfl rfl rfl (e_move (tm rfl rfl)) ?_
  refine sv (v := .bool (decide (r12.1 = r16.1))) rfl rfl rfl (e_bin (tm rfl rfl) (tm rfl rfl) (r_eql rfl)) ?_
  refine sv (v := .bool (decide (r12.1 = r16.1))) rfl rfl rfl (e_move (tm rfl rfl)) ?_
  refine s_gp (v := .int .i64 r12.2) rfl rfl rfl (beq_t _) (fun g_ => e_move (tm rfl rfl)) rfl ?_
  refine s_gp (v := .int .i64 r16.2) rfl rfl rfl (beq_t _) (fun g_ => e_move (tm rfl rfl)) rfl ?_
  refine s_gp (v := .bool (decide (r12.2 = r16.2))) rfl rfl rfl (beq_t _) (fun g_ => e_bin (tmg (decide (r12.1 = r16.1)) (.int .i64 r12.2) rfl rfl g_) (tmg (decide (r12.1 = r16.1)) (.int .i64 r16.2) rfl rfl g_) (r_eql rfl)) rfl ?_
  refine sv (v := .bool ((decide (r12.1 = r16.1)) && (decide (r12.2 = r16.2)))) rfl rfl rfl (e_pick (v1 := .bool (decide (r12.2 = r16.2))) (v2 := .bool false) (tm rfl rfl) (fun h_ => tmg (decide (r12.1 = r16.1)) (.bool (decide (r12.2 = r16.2))) rfl rfl h_) (fun _ => rfl) (pk_and (decide (r12.1 = r16.1)))) ?_
  refine sv (v := .bool ((decide (r12.1 = r16.1)) && (decide (r12.2 = r16.2)))) rfl rfl rfl (e_assign (tm rfl rfl)) ?_
  refine k_nil ?_
  refine k_ret ?_
  obtain rfl := Option.some.inj H
  exact k_end rfl (.tmp rfl rfl .nil) rfl ⟨rfl, hp15.below⟩

end Go.Proofs.Ytallojficgiemaa.W

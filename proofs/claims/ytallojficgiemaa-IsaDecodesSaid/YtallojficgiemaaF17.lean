/- Functions of the program as plain Lean functions, and that the calls do what they say: written by wip/tools/walk.py. -/
import Derived.Test.YtallojficgiemaaTy
import Derived.Test.YtallojficgiemaaF0
import Derived.Test.YtallojficgiemaaF1
import Derived.Test.YtallojficgiemaaF2
import Derived.Test.YtallojficgiemaaF3
import Derived.Test.YtallojficgiemaaF4
import Derived.Test.YtallojficgiemaaF5
import Derived.Test.YtallojficgiemaaF6
import Derived.Test.YtallojficgiemaaF7
import Derived.Test.YtallojficgiemaaF8
import Derived.Test.YtallojficgiemaaF9
import Derived.Test.YtallojficgiemaaF10
import Derived.Test.YtallojficgiemaaF11
import Derived.Test.YtallojficgiemaaF12
import Derived.Test.YtallojficgiemaaF13
import Derived.Test.YtallojficgiemaaF14
import Derived.Test.YtallojficgiemaaF15
import Derived.Test.YtallojficgiemaaF16
set_option linter.unusedVariables false
set_option linter.unusedSimpArgs false
set_option linter.unusedSectionVars false
namespace Go.Proofs.Ytallojficgiemaa.W
open Go Go.RowKit Go.Proofs.Ytallojficgiemaa.B
attribute [local irreducible] Go.wpList Go.Code.wp Go.Region.wanted Go.yielded
/-! ### selvage/selvagelaw15.awake: function 7 -/
def selvagelaw15_awake.m (k : Nat) : Option (Bool) := (isa_Encode.m (⟨1, 3, 1, 0, 8⟩ : api_Inst)).bind fun r4 => ((isa_Decode.m k 2021859108).bind fun r8 => (some ((((decide (r4.2 = 0)) && (decide (r4.1 = 945881096))) && (decide (r8.2 = 0))) && ((r8.1.Op == 5) && ((r8.1.T == 3) && ((r8.1.A == 4) && ((r8.1.B == 0) && ((r8.1.Imm == 3) && true))))))))
set_option maxHeartbeats 4000000 in
set_option maxRecDepth 100000 in
theorem selvagelaw15_awake.calls (k : Nat) (r : Bool) (w : World) (H : selvagelaw15_awake.m k = some r) :
    Ret Try.prog 7 [] w fun v w' => v = .bool r ∧ Below w.heap.size w w' := by
  unfold selvagelaw15_awake.m at H
  have hp0 := Hp.start w
  refine enter (L := []) Try.func7 rfl Try.ntmps7 rfl rfl ?_
  refine k_seq ?_
  refine k_region ?_
  refine sv (v := .bool false) rfl rfl rfl (e_assign rfl) ?_
  refine k_nil ?_
  refine k_seq ?_
  refine k_region ?_
  refine sv (v := .agg #[.int .i64 1, .int .i64 3, .int .i64 1, .int .i64 0, .int .i64 8]) rfl rfl rfl (e_build (vs := [(0, .int .i64 1), (1, .int .i64 3), (2, .int .i64 1), (4, .int .i64 8)]) (.cons rfl (.cons rfl (.cons rfl (.cons rfl .nil)))) (by kernel_rfl)) ?_
  obtain ⟨r4, hx15, H⟩ := bindSome H
  refine s_call (.cons (tm rfl rfl) .nil) Try.call8 (isa_Encode.calls (⟨1, 3, 1, 0, 8⟩ : api_Inst) r4 _ hx15) rfl ?_
  rintro v_ w1 ⟨rfl, hb2⟩
  have hp3 := hp0.grow hb2
  refine sv (v := .tuple #[.int .u32 r4.1, .int .i64 r4.2]) rfl rfl rfl (e_move (tm rfl rfl)) ?_
  refine sv (v := .int .u32 r4.1) rfl rfl rfl (e_extract (tm rfl rfl) rfl) ?_
  refine sv (v := .int .i64 r4.2) rfl rfl rfl (e_extract (tm rfl rfl) rfl) ?_
  refine sv (v := .int .u32 r4.1) rfl rfl rfl (e_assign (tm rfl rfl)) ?_
  refine sv (v := .int .i64 r4.2) rfl rfl rfl (e_assign (tm rfl rfl)) ?_
  refine k_nil ?_
  refine k_seq ?_
  refine k_region ?_
  obtain ⟨r8, hx14, H⟩ := bindSome H
  refine s_call (.cons rfl .nil) Try.call10 (isa_Decode.calls k 2021859108 r8 _ hx14) rfl ?_
  rintro v_ w5 ⟨rfl, hb6⟩
  have hp7 := hp3.grow hb6
  refine sv (v := .tuple #[.agg #[.int .i64 r8.1.Op, .int .i64 r8.1.T, .int .i64 r8.1.A, .int .i64 r8.1.B, .int .i64 r8.1.Imm], .int .i64 r8.2]) rfl rfl rfl (e_move (tm rfl rfl)) ?_
  refine sv (v := .agg #[.int .i64 r8.1.Op, .int .i64 r8.1.T, .int .i64 r8.1.A, .int .i64 r8.1.B, .int .i64 r8.1.Imm]) rfl rfl rfl (e_extract (tm rfl rfl) rfl) ?_
  refine sv (v := .int .i64 r8.2) rfl rfl rfl (e_extract (tm rfl rfl) rfl) ?_
  refine s_alloc (zv := .agg #[.int .i64 0, .int .i64 0, .int .i64 0, .int .i64 0, .int .i64 0]) (l := [.int .i64 0, .int .i64 0, .int .i64 0, .int .i64 0, .int .i64 0]) hp7 (by intro w_; kernel_rfl) rfl rfl (fun b9 w10 hp11 => ?_)
  refine s_store (i := 0) (j := 0) (vs := [.int .i64 r8.1.Op, .int .i64 r8.1.T, .int .i64 r8.1.A, .int .i64 r8.1.B, .int .i64 r8.1.Imm]) (l' := [.int .i64 r8.1.Op, .int .i64 r8.1.T, .int .i64 r8.1.A, .int .i64 r8.1.B, .int .i64 r8.1.Imm]) hp11 (tm rfl rfl) (tm rfl rfl) rfl Try.sizeOf23 rfl rfl rfl rfl rfl rfl (fun w12 hp13 => ?_)
  refine sv (v := .int .i64 r8.2) rfl rfl rfl (e_assign (tm rfl rfl)) ?_
  refine k_nil ?_
  refine k_seq ?_
  refine k_region ?_
  refine sv (v := .int .i64 r4.2) rfl rfl rfl (e_move (tm rfl rfl)) ?_
  refine sv (v := .bool (decide (r4.2 = 0))) rfl rfl rfl (e_bin (tm rfl rfl) rfl (r_eql rfl)) ?_
  refine sv (v := .bool (decide (r4.2 = 0))) rfl rfl rfl (e_move (tm rfl rfl)) ?_
  refine s_gp (v := .int .u32 r4.1) rfl rfl rfl (beq_t _) (fun g_ => e_move (tm rfl rfl)) rfl ?_
  refine s_gp (v := .bool (decide (r4.1 = 945881096))) rfl rfl rfl (beq_t _) (fun g_ => e_bin (tmg (decide (r4.2 = 0)) (.int .u32 r4.1) rfl rfl g_) rfl (r_eql rfl)) rfl ?_
  refine sv (v := .bool ((decide (r4.2 = 0)) && (decide (r4.1 = 945881096)))) rfl rfl rfl (e_pick (v1 := .bool (decide (r4.1 = 945881096))) (v2 := .bool false) (tm rfl rfl) (fun h_ => tmg (decide (r4.2 = 0)) (.bool (decide (r4.1 = 945881096))) rfl rfl h_) (fun _ => rfl) (pk_and (decide (r4.2 = 0)))) ?_
  refine sv (v := .bool ((decide (r4.2 = 0)) && (decide (r4.1 = 945881096)))) rfl rfl rfl (e_move (tm rfl rfl)) ?_
  refine s_gp (v := .int .i64 r8.2) rfl rfl rfl (beq_t _) (fun g_ => e_move (tm rfl rfl)) rfl ?_
  refine s_gp (v := .bool (decide (r8.2 = 0))) rfl rfl rfl (beq_t _) (fun g_ => e_bin (tmg ((decide (r4.2 = 0)) && (decide (r4.1 = 945881096))) (.int .i64 r8.2) rfl rfl g_) rfl (r_eql rfl)) rfl ?_
  refine sv (v := .bool (((decide (r4.2 = 0)) && (decide (r4.1 = 945881096))) && (decide (r8.2 = 0)))) rfl rfl rfl (e_pick (v1 := .bool (decide (r8.2 = 0))) (v2 := .bool false) (tm rfl rfl) (fun h_ => tmg ((decide (r4.2 = 0)) && (decide (r4.1 = 945881096))) (.bool (decide (r8.2 = 0))) rfl rfl h_) (fun _ => rfl) (pk_and ((decide (r4.2 = 0)) && (decide (r4.1 = 945881096))))) ?_
  refine sv (v := .bool (((decide (r4.2 = 0)) && (decide (r4.1 = 945881096))) && (decide (r8.2 = 0)))) rfl rfl rfl (e_move (tm rfl rfl)) ?_
  refine s_gp (v := .agg #[.int .i64 r8.1.Op, .int .i64 r8.1.T, .int .i64 r8.1.A, .int .i64 r8.1.B, .int .i64 r8.1.Imm]) rfl rfl rfl (beq_t _) (fun g_ => e_loadA (tm rfl rfl) Try.isAgg23 Try.sizeOf23 rfl (cells_box (sz := 5) (hp13.get (i := 0) (j := 0) rfl rfl) rfl)) rfl ?_
  refine s_gp (v := .agg #[.int .i64 5, .int .i64 3, .int .i64 4, .int .i64 0, .int .i64 3]) rfl rfl rfl (beq_t _) (fun g_ => e_build (vs := [(0, .int .i64 5), (1, .int .i64 3), (2, .int .i64 4), (4, .int .i64 3)]) (.cons rfl (.cons rfl (.cons rfl (.cons rfl .nil)))) (by kernel_rfl)) rfl ?_
  refine s_gp (v := .bool ((r8.1.Op == 5) && ((r8.1.T == 3) && ((r8.1.A == 4) && ((r8.1.B == 0) && ((r8.1.Imm == 3) && true)))))) rfl rfl rfl (beq_t _) (fun g_ => e_bin (tmg (((decide (r4.2 = 0)) && (decide (r4.1 = 945881096))) && (decide (r8.2 = 0))) (.agg #[.int .i64 r8.1.Op, .int .i64 r8.1.T, .int .i64 r8.1.A, .int .i64 r8.1.B, .int .i64 r8.1.Imm]) rfl rfl g_) (tmg (((decide (r4.2 = 0)) && (decide (r4.1 = 945881096))) && (decide (r8.2 = 0))) (.agg #[.int .i64 5, .int .i64 3, .int .i64 4, .int .i64 0, .int .i64 3]) rfl rfl g_) (r_eqs Try.underlying23 (by kernel_rfl) (by kernel_rfl) (q_cons rfl rfl rfl (q_int Try.underlying3) (q_cons rfl rfl rfl (q_int Try.underlying3) (q_cons rfl rfl rfl (q_int Try.underlying3) (q_cons rfl rfl rfl (q_int Try.underlying3) (q_cons rfl rfl rfl (q_int Try.underlying3) q_nil))))))) rfl ?_
  refine sv (v := .bool ((((decide (r4.2 = 0)) && (decide (r4.1 = 945881096))) && (decide (r8.2 = 0))) && ((r8.1.Op == 5) && ((r8.1.T == 3) && ((r8.1.A == 4) && ((r8.1.B == 0) && ((r8.1.Imm == 3) && true))))))) rfl rfl rfl (e_pick (v1 := .bool ((r8.1.Op == 5) && ((r8.1.T == 3) && ((r8.1.A == 4) && ((r8.1.B == 0) && ((r8.1.Imm == 3) && true)))))) (v2 := .bool false) (tm rfl rfl) (fun h_ => tmg (((decide (r4.2 = 0)) && (decide (r4.1 = 945881096))) && (decide (r8.2 = 0))) (.bool ((r8.1.Op == 5) && ((r8.1.T == 3) && ((r8.1.A == 4) && ((r8.1.B == 0) && ((r8.1.Imm == 3) && true)))))) rfl rfl h_) (fun _ => rfl) (pk_and (((decide (r4.2 = 0)) && (decide (r4.1 = 945881096))) && (decide (r8.2 = 0))))) ?_
  refine sv (v := .bool ((((decide (r4.2 = 0)) && (decide (r4.1 = 945881096))) && (decide (r8.2 = 0))) && ((r8.1.Op == 5) && ((r8.1.T == 3) && ((r8.1.A == 4) && ((r8.1.B == 0) && ((r8.1.Imm == 3) && true))))))) rfl rfl rfl (e_assign (tm rfl rfl)) ?_
  refine k_nil ?_
  refine k_ret ?_
  obtain rfl := Option.some.inj H
  exact k_end rfl (.tmp rfl rfl .nil) rfl ⟨rfl, hp13.below⟩

end Go.Proofs.Ytallojficgiemaa.W

/- Functions of the program as plain Lean functions, and that the calls do what they say: written by wip/tools/walk.py. -/
import Derived.Test.YtallojficgiemaaTy
import Derived.Test.YtallojficgiemaaF0
import Derived.Test.YtallojficgiemaaF1
import Derived.Test.YtallojficgiemaaF2
import Derived.Test.YtallojficgiemaaF3
import Derived.Test.YtallojficgiemaaF4
import Derived.Test.YtallojficgiemaaF5
import Derived.Test.YtallojficgiemaaF6
import Derived.Test.YtallojficgiemaaF7
import Derived.Test.YtallojficgiemaaF8
import Derived.Test.YtallojficgiemaaF9
import Derived.Test.YtallojficgiemaaF10
import Derived.Test.YtallojficgiemaaF11
import Derived.Test.YtallojficgiemaaF12
import Derived.Test.YtallojficgiemaaF13
import Derived.Test.YtallojficgiemaaF14
import Derived.Test.YtallojficgiemaaF15
import Derived.Test.YtallojficgiemaaF16
import Derived.Test.YtallojficgiemaaF17
import Derived.Test.YtallojficgiemaaF18
import Derived.Test.YtallojficgiemaaF19
import Derived.Test.YtallojficgiemaaF20
set_option linter.unusedVariables false
set_option linter.unusedSimpArgs false
set_option linter.unusedSectionVars false
namespace Go.Proofs.Ytallojficgiemaa.W
open Go Go.RowKit Go.Proofs.Ytallojficgiemaa.B
attribute [local irreducible] Go.wpList Go.Code.wp Go.Region.wanted Go.yielded
/-! ### selvage/selvagelaw15.IsaApart: function 6 -/
def selvagelaw15_IsaApart.m (k : Nat) (a0 : api_Inst) (a1 : api_Inst) : Option (Bool) := (selvagelaw15_awake.m k).bind fun r10 => (if (!r10) = true then (some false) else ((isa_Encode.m a0).bind fun r15 => ((isa_Encode.m a1).bind fun r19 => (some (((!decide (r15.2 = 0)) || (!decide (r19.2 = 0))) || (((a0.Op == a1.Op) && ((a0.T == a1.T) && ((a0.A == a1.A) && ((a0.B == a1.B) && ((a0.Imm == a1.Imm) && true))))) == (decide (r15.1 = r19.1))))))))
set_option maxHeartbeats 4000000 in
set_option maxRecDepth 100000 in
theorem selvagelaw15_IsaApart.calls (k : Nat) (a0 : api_Inst) (a1 : api_Inst) (r : Bool) (w : World) (H : selvagelaw15_IsaApart.m k a0 a1 = some r) :
    Ret Try.prog 6 [.agg #[.int .i64 a0.Op, .int .i64 a0.T, .int .i64 a0.A, .int .i64 a0.B, .int .i64 a0.Imm], .agg #[.int .i64 a1.Op, .int .i64 a1.T, .int .i64 a1.A, .int .i64 a1.B, .int .i64 a1.Imm]] w fun v w' => v = .bool r ∧ Below w.heap.size w w' := by
  unfold selvagelaw15_IsaApart.m at H
  have hp0 := Hp.start w
  refine enter (L := [(0, .agg #[.int .i64 a0.Op, .int .i64 a0.T, .int .i64 a0.A, .int .i64 a0.B, .int .i64 a0.Imm]), (1, .agg #[.int .i64 a1.Op, .int .i64 a1.T, .int .i64 a1.A, .int .i64 a1.B, .int .i64 a1.Imm])]) Try.func6 rfl Try.ntmps6 rfl rfl ?_
  refine k_seq ?_
  refine k_region ?_
  refine s_box hp0 (tm rfl rfl) rfl rfl (fun b1 w2 hp3 => ?_)
  refine s_box hp3 (tm rfl rfl) rfl rfl (fun b4 w5 hp6 => ?_)
  refine sv (v := .bool false) rfl rfl rfl (e_assign rfl) ?_
  refine k_nil ?_
  refine k_seq ?_
  refine k_seq ?_
  refine k_region ?_
  obtain ⟨r10, hx22, H⟩ := bindSome H
  refine s_call .nil Try.call7 (selvagelaw15_awake.calls k r10 _ hx22) rfl ?_
  rintro v_ w7 ⟨rfl, hb8⟩
  have hp9 := hp6.grow hb8
  refine sv (v := .bool (!r10)) rfl rfl rfl (e_un (tm rfl rfl) (r_not rfl)) ?_
  refine k_nil ?_
  refine k_if (tm rfl rfl) (fun h11 => ?_) (fun h11 => ?_)
  · have H := ift h11 H
    refine k_seq ?_
    refine k_region ?_
    refine sv (v := .bool false) rfl rfl rfl (e_assign rfl) ?_
    refine k_nil ?_
    refine k_ret ?_
    obtain rfl := Option.some.inj H
    exact k_end rfl (.tmp rfl rfl .nil) rfl ⟨rfl, hp9.below⟩
  have H := iff_ h11 H
  refine k_skip ?_
  refine k_seq ?_
  refine k_region ?_
  refine sv (v := .agg #[.int .i64 a0.Op, .int .i64 a0.T, .int .i64 a0.A, .int .i64 a0.B, .int .i64 a0.Imm]) rfl rfl rfl (e_loadA (tm rfl rfl) Try.isAgg23 Try.sizeOf23 rfl (cells_box (sz := 5) (hp9.get (i := 0) (j := 0) rfl rfl) rfl)) ?_
  obtain ⟨r15, hx21, H⟩ := bindSome H
  refine s_call (.cons (tm rfl rfl) .nil) Try.call8 (isa_Encode.calls a0 r15 _ hx21) rfl ?_
  rintro v_ w12 ⟨rfl, hb13⟩
  have hp14 := hp9.grow hb13
  refine sv (v := .tuple #[.int .u32 r15.1, .int .i64 r15.2]) rfl rfl rfl (e_move (tm rfl rfl)) ?_
  refine sv (v := .int .u32 r15.1) rfl rfl rfl (e_extract (tm rfl rfl) rfl) ?_
  refine sv (v := .int .i64 r15.2) rfl rfl rfl (e_extract (tm rfl rfl) rfl) ?_
  refine sv (v := .int .u32 r15.1) rfl rfl rfl (e_assign (tm rfl rfl)) ?_
  refine sv (v := .int .i64 r15.2) rfl rfl rfl (e_assign (tm rfl rfl)) ?_
  refine k_nil ?_
  refine k_seq ?_
  refine k_region ?_
  refine sv (v := .agg #[.int .i64 a1.Op, .int .i64 a1.T, .int .i64 a1.A, .int .i64 a1.B, .int .i64 a1.Imm]) rfl rfl rfl (e_loadA (tm rfl rfl) Try.isAgg23 Try.sizeOf23 rfl (cells_box (sz := 5) (hp14.get (i := 1) (j := 0) rfl rfl) rfl)) ?_
  obtain ⟨r19, hx20, H⟩ := bindSome H
  refine s_call (.cons (tm rfl rfl) .nil) Try.call8 (isa_Encode.calls a1 r19 _ hx20) rfl ?_
  rintro v_ w16 ⟨rfl, hb17⟩
  have hp18 := hp14.grow hb17
  refine sv (v := .tuple #[.int .u32 r19.1, .int .i64 r19.2]) rfl rfl rfl (e_move (tm rfl rfl)) ?_
  refine sv (v := .int .u32 r19.1) rfl rfl rfl (e_extract (tm rfl rfl) rfl) ?_
  refine sv (v := .int .i64 r19.2) rfl rfl rfl (e_extract (tm rfl rfl) rfl) ?_
  refine sv (v := .int .u32 r19.1) rfl rfl rfl (e_assign (tm rfl rfl)) ?_
  refine sv (v := .int .i64 r19.2) rfl rfl rfl (e_assign (tm rfl rfl)) ?_
  refine k_nil ?_
  refine k_seq ?_
  refine k_region ?_
  refine sv (v := .int .i64 r15.2) rfl rfl rfl (e_move (tm rfl rfl)) ?_
  refine sv (v := .bool (!decide (r15.2 = 0))) rfl rfl rfl (e_bin (tm rfl rfl) rfl (r_neq rfl)) ?_
  refine sv (v := .bool (!decide (r15.2 = 0))) rfl rfl rfl (e_move (tm rfl rfl)) ?_
  refine s_gp (v := .int .i64 r19.2) rfl rfl rfl (beq_f _) (fun g_ => e_move (tm rfl rfl)) rfl ?_
  refine s_gp (v := .bool (!decide (r19.2 = 0))) rfl rfl rfl (beq_f _) (fun g_ => e_bin (tmg (!(!decide (r15.2 = 0))) (.int .i64 r19.2) rfl rfl g_) rfl (r_neq rfl)) rfl ?_
  refine sv (v := .bool ((!decide (r15.2 = 0)) || (!decide (r19.2 = 0)))) rfl rfl rfl (e_pick (v1 := .bool true) (v2 := .bool (!decide (r19.2 = 0))) (tm rfl rfl) (fun _ => rfl) (fun h_ => tmg (!(!decide (r15.2 = 0))) (.bool (!decide (r19.2 = 0))) rfl rfl (nt h_)) (pk_or (!decide (r15.2 = 0)))) ?_
  refine sv (v := .bool ((!decide (r15.2 = 0)) || (!decide (r19.2 = 0)))) rfl rfl rfl (e_move (tm rfl rfl)) ?_
  refine s_gp (v := .agg #[.int .i64 a0.Op, .int .i64 a0.T, .int .i64 a0.A, .int .i64 a0.B, .int .i64 a0.Imm]) rfl rfl rfl (beq_f _) (fun g_ => e_loadA (tm rfl rfl) Try.isAgg23 Try.sizeOf23 rfl (cells_box (sz := 5) (hp18.get (i := 0) (j := 0) rfl rfl) rfl)) rfl ?_
  refine s_gp (v := .agg #[.int .i64 a1.Op, .int .i64 a1.T, .int .i64 a1.A, .int .i64 a1.B, .int .i64 a1.Imm]) rfl rfl rfl (beq_f _) (fun g_ => e_loadA (tm rfl rfl) Try.isAgg23 Try.sizeOf23 rfl (cells_box (sz := 5) (hp18.get (i := 1) (j := 0) rfl rfl) rfl)) rfl ?_
  refine s_gp (v := .bool ((a0.Op == a1.Op) && ((a0.T == a1.T) && ((a0.A == a1.A) && ((a0.B == a1.B) && ((a0.Imm == a1.Imm) && true)))))) rfl rfl rfl (beq_f _) (fun g_ => e_bin (tmg (!((!decide (r15.2 = 0)) || (!decide (r19.2 = 0)))) (.agg #[.int .i64 a0.Op, .int .i64 a0.T, .int .i64 a0.A, .int .i64 a0.B, .int .i64 a0.Imm]) rfl rfl g_) (tmg (!((!decide (r15.2 = 0)) || (!decide (r19.2 = 0)))) (.agg #[.int .i64 a1.Op, .int .i64 a1.T, .int .i64 a1.A, .int .i64 a1.B, .int .i64 a1.Imm]) rfl rfl g_) (r_eqs Try.underlying23 (by kernel_rfl) (by kernel_rfl) (q_cons rfl rfl rfl (q_int Try.underlying3) (q_cons rfl rfl rfl (q_int Try.underlying3) (q_cons rfl rfl rfl (q_int Try.underlying3) (q_cons rfl rfl rfl (q_int Try.underlying3) (q_cons rfl rfl rfl (q_int Try.underlying3) q_nil))))))) rfl ?_
  refine s_gp (v := .int .u32 r15.1) rfl rfl rfl (beq_f _) (fun g_ => e_move (tm rfl rfl)) rfl ?_
  refine s_gp (v := .int .u32 r19.1) rfl rfl rfl (beq_f _) (fun g_ => e_move (tm rfl rfl)) rfl ?_
  refine s_gp (v := .bool (decide (r15.1 = r19.1))) rfl rfl rfl (beq_f _) (fun g_ => e_bin (tmg (!((!decide (r15.2 = 0)) || (!decide (r19.2 = 0)))) (.int .u32 r15.1) rfl rfl g_) (tmg (!((!decide (r15.2 = 0)) || (!decide (r19.2 = 0)))) (.int .u32 r19.1) rfl rfl g_) (r_eql rfl)) rfl ?_
  refine s_gp (v := .bool (((a0.Op == a1.Op) && ((a0.T == a1.T) && ((a0.A == a1.A) && ((a0.B == a1.B) && ((a0.Imm == a1.Imm) && true))))) == (decide (r15.1 = r19.1)))) rfl rfl rfl (beq_f _) (fun g_ => e_bin (tmg (!((!decide (r15.2 = 0)) || (!decide (r19.2 = 0)))) (.bool ((a0.Op == a1.Op) && ((a0.T == a1.T) && ((a0.A == a1.A) && ((a0.B == a1.B) && ((a0.Imm == a1.Imm) && true)))))) rfl rfl g_) (tmg (!((!decide (r15.2 = 0)) || (!decide (r19.2 = 0)))) (.bool (decide (r15.1 = r19.1))) rfl rfl g_) (r_eqb Try.runUnderlying4 rfl)) rfl ?_
  refine sv (v := .bool (((!decide (r15.2 = 0)) || (!decide (r19.2 = 0))) || (((a0.Op == a1.Op) && ((a0.T == a1.T) && ((a0.A == a1.A) && ((a0.B == a1.B) && ((a0.Imm == a1.Imm) && true))))) == (decide (r15.1 = r19.1))))) rfl rfl rfl (e_pick (v1 := .bool true) (v2 := .bool (((a0.Op == a1.Op) && ((a0.T == a1.T) && ((a0.A == a1.A) && ((a0.B == a1.B) && ((a0.Imm == a1.Imm) && true))))) == (decide (r15.1 = r19.1)))) (tm rfl rfl) (fun _ => rfl) (fun h_ => tmg (!((!decide (r15.2 = 0)) || (!decide (r19.2 = 0)))) (.bool (((a0.Op == a1.Op) && ((a0.T == a1.T) && ((a0.A == a1.A) && ((a0.B == a1.B) && ((a0.Imm == a1.Imm) && true))))) == (decide (r15.1 = r19.1)))) rfl rfl (nt h_)) (pk_or ((!decide (r15.2 = 0)) || (!decide (r19.2 = 0))))) ?_
  refine sv (v := .bool (((!decide (r15.2 = 0)) || (!decide (r19.2 = 0))) || (((a0.Op == a1.Op) && ((a0.T == a1.T) && ((a0.A == a1.A) && ((a0.B == a1.B) && ((a0.Imm == a1.Imm) && true))))) == (decide (r15.1 = r19.1))))) rfl rfl rfl (e_assign (tm rfl rfl)) ?_
  refine k_nil ?_
  refine k_ret ?_
  obtain rfl := Option.some.inj H
  exact k_end rfl (.tmp rfl rfl .nil) rfl ⟨rfl, hp18.below⟩

end Go.Proofs.Ytallojficgiemaa.W

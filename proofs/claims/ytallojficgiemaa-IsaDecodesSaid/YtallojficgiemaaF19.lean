/- Functions of the program as plain Lean functions, and that the calls do what they say: written by wip/tools/walk.py. -/
import Derived.Test.YtallojficgiemaaTy
import Derived.Test.YtallojficgiemaaF0
import Derived.Test.YtallojficgiemaaF1
import Derived.Test.YtallojficgiemaaF2
import Derived.Test.YtallojficgiemaaF3
import Derived.Test.YtallojficgiemaaF4
import Derived.Test.YtallojficgiemaaF5
import Derived.Test.YtallojficgiemaaF6
import Derived.Test.YtallojficgiemaaF7
import Derived.Test.YtallojficgiemaaF8
import Derived.Test.YtallojficgiemaaF9
import Derived.Test.YtallojficgiemaaF10
import Derived.Test.YtallojficgiemaaF11
import Derived.Test.YtallojficgiemaaF12
import Derived.Test.YtallojficgiemaaF13
import Derived.Test.YtallojficgiemaaF14
import Derived.Test.YtallojficgiemaaF15
import Derived.Test.YtallojficgiemaaF16
import Derived.Test.YtallojficgiemaaF17
import Derived.Test.YtallojficgiemaaF18
set_option linter.unusedVariables false
set_option linter.unusedSimpArgs false
set_option linter.unusedSectionVars false
namespace Go.Proofs.Ytallojficgiemaa.W
open Go Go.RowKit Go.Proofs.Ytallojficgiemaa.B
attribute [local irreducible] Go.wpList Go.Code.wp Go.Region.wanted Go.yielded
/-! ### selvage/selvagelaw15.IsaDecodes: function 4 -/
def selvagelaw15_IsaDecodes.m (k : Nat) (a0 : Int) : Option (Bool) := (selvagelaw15_awake.m k).bind fun r4 => (if (!r4) = true then (some false) else ((isa_Decode.m k a0).bind fun r9 => ((selvageref15_Decode.m k a0).bind fun r18 => (some (((r9.1.Op == r18.1.Op) && ((r9.1.T == r18.1.T) && ((r9.1.A == r18.1.A) && ((r9.1.B == r18.1.B) && ((r9.1.Imm == r18.1.Imm) && true))))) && (decide (r9.2 = r18.2)))))))
set_option maxHeartbeats 4000000 in
set_option maxRecDepth 100000 in
theorem selvagelaw15_IsaDecodes.calls (k : Nat) (a0 : Int) (r : Bool) (w : World) (H : selvagelaw15_IsaDecodes.m k a0 = some r) :
    Ret Try.prog 4 [.int .u32 a0] w fun v w' => v = .bool r ∧ Below w.heap.size w w' := by
  unfold selvagelaw15_IsaDecodes.m at H
  have hp0 := Hp.start w
  refine enter (L := [(0, .int .u32 a0)]) Try.func4 rfl Try.ntmps4 rfl rfl ?_
  refine k_seq ?_
  refine k_region ?_
  refine sv (v := .bool false) rfl rfl rfl (e_assign rfl) ?_
  refine k_nil ?_
  refine k_seq ?_
  refine k_seq ?_
  refine k_region ?_
  obtain ⟨r4, hx26, H⟩ := bindSome H
  refine s_call .nil Try.call7 (selvagelaw15_awake.calls k r4 _ hx26) rfl ?_
  rintro v_ w1 ⟨rfl, hb2⟩
  have hp3 := hp0.grow hb2
  refine sv (v := .bool (!r4)) rfl rfl rfl (e_un (tm rfl rfl) (r_not rfl)) ?_
  refine k_nil ?_
  refine k_if (tm rfl rfl) (fun h5 => ?_) (fun h5 => ?_)
  · have H := ift h5 H
    refine k_seq ?_
    refine k_region ?_
    refine sv (v := .bool false) rfl rfl rfl (e_assign rfl) ?_
    refine k_nil ?_
    refine k_ret ?_
    obtain rfl := Option.some.inj H
    exact k_end rfl (.tmp rfl rfl .nil) rfl ⟨rfl, hp3.below⟩
  have H := iff_ h5 H
  refine k_skip ?_
  refine k_seq ?_
  refine k_region ?_
  refine sv (v := .int .u32 a0) rfl rfl rfl (e_move (tm rfl rfl)) ?_
  obtain ⟨r9, hx25, H⟩ := bindSome H
  refine s_call (.cons (tm rfl rfl) .nil) Try.call10 (isa_Decode.calls k a0 r9 _ hx25) rfl ?_
  rintro v_ w6 ⟨rfl, hb7⟩
  have hp8 := hp3.grow hb7
  refine sv (v := .tuple #[.agg #[.int .i64 r9.1.Op, .int .i64 r9.1.T, .int .i64 r9.1.A, .int .i64 r9.1.B, .int .i64 r9.1.Imm], .int .i64 r9.2]) rfl rfl rfl (e_move (tm rfl rfl)) ?_
  refine sv (v := .agg #[.int .i64 r9.1.Op, .int .i64 r9.1.T, .int .i64 r9.1.A, .int .i64 r9.1.B, .int .i64 r9.1.Imm]) rfl rfl rfl (e_extract (tm rfl rfl) rfl) ?_
  refine sv (v := .int .i64 r9.2) rfl rfl rfl (e_extract (tm rfl rfl) rfl) ?_
  refine s_alloc (zv := .agg #[.int .i64 0, .int .i64 0, .int .i64 0, .int .i64 0, .int .i64 0]) (l := [.int .i64 0, .int .i64 0, .int .i64 0, .int .i64 0, .int .i64 0]) hp8 (by intro w_; kernel_rfl) rfl rfl (fun b10 w11 hp12 => ?_)
  refine s_store (i := 0) (j := 0) (vs := [.int .i64 r9.1.Op, .int .i64 r9.1.T, .int .i64 r9.1.A, .int .i64 r9.1.B, .int .i64 r9.1.Imm]) (l' := [.int .i64 r9.1.Op, .int .i64 r9.1.T, .int .i64 r9.1.A, .int .i64 r9.1.B, .int .i64 r9.1.Imm]) hp12 (tm rfl rfl) (tm rfl rfl) rfl Try.sizeOf23 rfl rfl rfl rfl rfl rfl (fun w13 hp14 => ?_)
  refine sv (v := .int .i64 r9.2) rfl rfl rfl (e_assign (tm rfl rfl)) ?_
  refine k_nil ?_
  refine k_seq ?_
  refine k_region ?_
  refine sv (v := .int .u32 a0) rfl rfl rfl (e_move (tm rfl rfl)) ?_
  obtain ⟨r18, hx24, H⟩ := bindSome H
  refine s_call (.cons (tm rfl rfl) .nil) Try.call11 (selvageref15_Decode.calls k a0 r18 _ hx24) rfl ?_
  rintro v_ w15 ⟨rfl, hb16⟩
  have hp17 := hp14.grow hb16
  refine sv (v := .tuple #[.agg #[.int .i64 r18.1.Op, .int .i64 r18.1.T, .int .i64 r18.1.A, .int .i64 r18.1.B, .int .i64 r18.1.Imm], .int .i64 r18.2]) rfl rfl rfl (e_move (tm rfl rfl)) ?_
  refine sv (v := .agg #[.int .i64 r18.1.Op, .int .i64 r18.1.T, .int .i64 r18.1.A, .int .i64 r18.1.B, .int .i64 r18.1.Imm]) rfl rfl rfl (e_extract (tm rfl rfl) rfl) ?_
  refine sv (v := .int .i64 r18.2) rfl rfl rfl (e_extract (tm rfl rfl) rfl) ?_
  refine s_alloc (zv := .agg #[.int .i64 0, .int .i64 0, .int .i64 0, .int .i64 0, .int .i64 0]) (l := [.int .i64 0, .int .i64 0, .int .i64 0, .int .i64 0, .int .i64 0]) hp17 (by intro w_; kernel_rfl) rfl rfl (fun b19 w20 hp21 => ?_)
  refine s_store (i := 1) (j := 0) (vs := [.int .i64 r18.1.Op, .int .i64 r18.1.T, .int .i64 r18.1.A, .int .i64 r18.1.B, .int .i64 r18.1.Imm]) (l' := [.int .i64 r18.1.Op, .int .i64 r18.1.T, .int .i64 r18.1.A, .int .i64 r18.1.B, .int .i64 r18.1.Imm]) hp21 (tm rfl rfl) (tm rfl rfl) rfl Try.sizeOf23 rfl rfl rfl rfl rfl rfl (fun w22 hp23 => ?_)
  refine sv (v := .int .i64 r18.2) rfl rfl rfl (e_assign (tm rfl rfl)) ?_
  refine k_nil ?_
  refine k_seq ?_
  refine k_region ?_
  refine sv (v := .agg #[.int .i64 r9.1.Op, .int .i64 r9.1.T, .int .i64 r9.1.A, .int .i64 r9.1.B, .int .i64 r9.1.Imm]) rfl rfl rfl (e_loadA (tm rfl rfl) Try.isAgg23 Try.sizeOf23 rfl (cells_box (sz := 5) (hp23.get (i := 0) (j := 0) rfl rfl) rfl)) ?_
  refine sv (v := .agg #[.int .i64 r18.1.Op, .int .i64 r18.1.T, .int .i64 r18.1.A, .int .i64 r18.1.B, .int .i64 r18.1.Imm]) rfl rfl rfl (e_loadA (tm rfl rfl) Try.isAgg23 Try.sizeOf23 rfl (cells_box (sz := 5) (hp23.get (i := 1) (j := 0) rfl rfl) rfl)) ?_
  refine sv (v := .bool ((r9.1.Op == r18.1.Op) && ((r9.1.T == r18.1.T) && ((r9.1.A == r18.1.A) && ((r9.1.B == r18.1.B) && ((r9.1.Imm == r18.1.Imm) && true)))))) rfl rfl rfl (e_bin (tm rfl rfl) (tm rfl rfl) (r_eqs Try.underlying23 (by kernel_rfl) (by kernel_rfl) (q_cons rfl rfl rfl (q_int Try.underlying3) (q_cons rfl rfl rfl (q_int Try.underlying3) (q_cons rfl rfl rfl (q_int Try.underlying3) (q_cons rfl rfl rfl (q_int Try.underlying3) (q_cons rfl rfl rfl (q_int Try.underlying3) q_nil))))))) ?_
  refine sv (v := .bool ((r9.1.Op == r18.1.Op) && ((r9.1.T == r18.1.T) && ((r9.1.A == r18.1.A) && ((r9.1.B == r18.1.B) && ((r9.1.Imm == r18.1.Imm) && true)))))) rfl rfl rfl (e_move (tm rfl rfl)) ?_
  refine s_gp (v := .int .i64 r9.2) rfl rfl rfl (beq_t _) (fun g_ => e_move (tm rfl rfl)) rfl ?_
  refine s_gp (v := .int .i64 r18.2) rfl rfl rfl (beq_t _) (fun g_ => e_move (tm rfl rfl)) rfl ?_
  refine s_gp (v := .bool (decide (r9.2 = r18.2))) rfl rfl rfl (beq_t _) (fun g_ => e_bin (tmg ((r9.1.Op == r18.1.Op) && ((r9.1.T == r18.1.T) && ((r9.1.A == r18.1.A) && ((r9.1.B == r18.1.B) && ((r9.1.Imm == r18.1.Imm) && true))))) (.int .i64 r9.2) rfl rfl g_) (tmg ((r9.1.Op == r18.1.Op) && ((r9.1.T == r18.1.T) && ((r9.1.A == r18.1.A) && ((r9.1.B == r18.1.B) && ((r9.1.Imm == r18.1.Imm) && true))))) (.int .i64 r18.2) rfl rfl g_) (r_eql rfl)) rfl ?_
  refine sv (v := .bool (((r9.1.Op == r18.1.Op) && ((r9.1.T == r18.1.T) && ((r9.1.A == r18.1.A) && ((r9.1.B == r18.1.B) && ((r9.1.Imm == r18.1.Imm) && true))))) && (decide (r9.2 = r18.2)))) rfl rfl rfl (e_pick (v1 := .bool (decide (r9.2 = r18.2))) (v2 := .bool false) (tm rfl rfl) (fun h_ => tmg ((r9.1.Op == r18.1.Op) && ((r9.1.T == r18.1.T) && ((r9.1.A == r18.1.A) && ((r9.1.B == r18.1.B) && ((r9.1.Imm == r18.1.Imm) && true))))) (.bool (decide (r9.2 = r18.2))) rfl rfl h_) (fun _ => rfl) (pk_and ((r9.1.Op == r18.1.Op) && ((r9.1.T == r18.1.T) && ((r9.1.A == r18.1.A) && ((r9.1.B == r18.1.B) && ((r9.1.Imm == r18.1.Imm) && true))))))) ?_
  refine sv (v := .bool (((r9.1.Op == r18.1.Op) && ((r9.1.T == r18.1.T) && ((r9.1.A == r18.1.A) && ((r9.1.B == r18.1.B) && ((r9.1.Imm == r18.1.Imm) && true))))) && (decide (r9.2 = r18.2)))) rfl rfl rfl (e_assign (tm rfl rfl)) ?_
  refine k_nil ?_
  refine k_ret ?_
  obtain rfl := Option.some.inj H
  exact k_end rfl (.tmp rfl rfl .nil) rfl ⟨rfl, hp23.below⟩

end Go.Proofs.Ytallojficgiemaa.W

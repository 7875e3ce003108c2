/- Functions of the program as plain Lean functions, and that the calls do what they say: written by wip/tools/walk.py. -/
import Derived.Test.YtallojficgiemaaTy
import Derived.Test.YtallojficgiemaaF0
import Derived.Test.YtallojficgiemaaF1
import Derived.Test.YtallojficgiemaaF2
import Derived.Test.YtallojficgiemaaF3
import Derived.Test.YtallojficgiemaaF4
import Derived.Test.YtallojficgiemaaF5
import Derived.Test.YtallojficgiemaaF6
import Derived.Test.YtallojficgiemaaF7
import Derived.Test.YtallojficgiemaaF8
import Derived.Test.YtallojficgiemaaF9
import Derived.Test.YtallojficgiemaaF10
import Derived.Test.YtallojficgiemaaF11
import Derived.Test.YtallojficgiemaaF12
import Derived.Test.YtallojficgiemaaF13
import Derived.Test.YtallojficgiemaaF14
import Derived.Test.YtallojficgiemaaF15
import Derived.Test.YtallojficgiemaaF16
import Derived.Test.YtallojficgiemaaF17
import Derived.Test.YtallojficgiemaaF18
import Derived.Test.YtallojficgiemaaF19
set_option linter.unusedVariables false
set_option linter.unusedSimpArgs false
set_option linter.unusedSectionVars false
namespace Go.Proofs.Ytallojficgiemaa.W
open Go Go.RowKit Go.Proofs.Ytallojficgiemaa.B
attribute [local irreducible] Go.wpList Go.Code.wp Go.Region.wanted Go.yielded
/-! ### selvage/selvagelaw15.IsaBack: function 5 -/
def selvagelaw15_IsaBack.m (k : Nat) (a0 : api_Inst) (a1 : Int) : Option (Bool) := (selvagelaw15_awake.m k).bind fun r7 => (if (!r7) = true then (some false) else ((isa_Encode.m a0).bind fun r12 => ((if (decide (r12.2 = 0)) = true then ((isa_Decode.m k r12.1).bind fun r20 => (if ((!decide (r20.2 = 0)) || (!((r20.1.Op == a0.Op) && ((r20.1.T == a0.T) && ((r20.1.A == a0.A) && ((r20.1.B == a0.B) && ((r20.1.Imm == a0.Imm) && true))))))) = true then (some (Sum.inr false)) else (some (Sum.inl ())))) else (if (!decide (r12.1 = 0)) = true then (some (Sum.inr false)) else (some (Sum.inl ())))).bind fun o13 => Sum.elim (fun s15 => ((isa_Decode.m k a1).bind fun r36 => (if (!decide (r36.2 = 0)) = true then (some ((decide (r36.2 = 3)) && ((r36.1.Op == 0) && ((r36.1.T == 0) && ((r36.1.A == 0) && ((r36.1.B == 0) && ((r36.1.Imm == 0) && true))))))) else ((isa_Encode.m (⟨r36.1.Op, r36.1.T, r36.1.A, r36.1.B, r36.1.Imm⟩ : api_Inst)).bind fun r46 => (some ((decide (r46.2 = 0)) && (decide (r46.1 = a1)))))))) (fun r49 => some r49) o13)))
set_option maxHeartbeats 4000000 in
set_option maxRecDepth 100000 in
theorem selvagelaw15_IsaBack.calls (k : Nat) (a0 : api_Inst) (a1 : Int) (r : Bool) (w : World) (H : selvagelaw15_IsaBack.m k a0 a1 = some r) :
    Ret Try.prog 5 [.agg #[.int .i64 a0.Op, .int .i64 a0.T, .int .i64 a0.A, .int .i64 a0.B, .int .i64 a0.Imm], .int .u32 a1] w fun v w' => v = .bool r ∧ Below w.heap.size w w' := by
  unfold selvagelaw15_IsaBack.m at H
  have hp0 := Hp.start w
  refine enter (L := [(0, .agg #[.int .i64 a0.Op, .int .i64 a0.T, .int .i64 a0.A, .int .i64 a0.B, .int .i64 a0.Imm]), (1, .int .u32 a1)]) Try.func5 rfl Try.ntmps5 rfl rfl ?_
  refine k_seq ?_
  refine k_region ?_
  refine s_box hp0 (tm rfl rfl) rfl rfl (fun b1 w2 hp3 => ?_)
  refine sv (v := .bool false) rfl rfl rfl (e_assign rfl) ?_
  refine k_nil ?_
  refine k_seq ?_
  refine k_seq ?_
  refine k_region ?_
  obtain ⟨r7, hx51, H⟩ := bindSome H
  refine s_call .nil Try.call7 (selvagelaw15_awake.calls k r7 _ hx51) rfl ?_
  rintro v_ w4 ⟨rfl, hb5⟩
  have hp6 := hp3.grow hb5
  refine sv (v := .bool (!r7)) rfl rfl rfl (e_un (tm rfl rfl) (r_not rfl)) ?_
  refine k_nil ?_
  refine k_if (tm rfl rfl) (fun h8 => ?_) (fun h8 => ?_)
  · have H := ift h8 H
    refine k_seq ?_
    refine k_region ?_
    refine sv (v := .bool false) rfl rfl rfl (e_assign rfl) ?_
    refine k_nil ?_
    refine k_ret ?_
    obtain rfl := Option.some.inj H
    exact k_end rfl (.tmp rfl rfl .nil) rfl ⟨rfl, hp6.below⟩
  have H := iff_ h8 H
  refine k_skip ?_
  refine k_seq ?_
  refine k_seq ?_
  refine k_region ?_
  refine sv (v := .agg #[.int .i64 a0.Op, .int .i64 a0.T, .int .i64 a0.A, .int .i64 a0.B, .int .i64 a0.Imm]) rfl rfl rfl (e_loadA (tm rfl rfl) Try.isAgg23 Try.sizeOf23 rfl (cells_box (sz := 5) (hp6.get (i := 0) (j := 0) rfl rfl) rfl)) ?_
  obtain ⟨r12, hx50, H⟩ := bindSome H
  refine s_call (.cons (tm rfl rfl) .nil) Try.call8 (isa_Encode.calls a0 r12 _ hx50) rfl ?_
  rintro v_ w9 ⟨rfl, hb10⟩
  have hp11 := hp6.grow hb10
  refine sv (v := .tuple #[.int .u32 r12.1, .int .i64 r12.2]) rfl rfl rfl (e_move (tm rfl rfl)) ?_
  refine sv (v := .int .u32 r12.1) rfl rfl rfl (e_extract (tm rfl rfl) rfl) ?_
  refine sv (v := .int .i64 r12.2) rfl rfl rfl (e_extract (tm rfl rfl) rfl) ?_
  refine sv (v := .int .u32 r12.1) rfl rfl rfl (e_assign (tm rfl rfl)) ?_
  refine sv (v := .int .i64 r12.2) rfl rfl rfl (e_assign (tm rfl rfl)) ?_
  refine k_nil ?_
  refine k_seq ?_
  refine k_region ?_
  refine sv (v := .int .i64 r12.2) rfl rfl rfl (e_move (tm rfl rfl)) ?_
  refine sv (v := .bool (decide (r12.2 = 0))) rfl rfl rfl (e_bin (tm rfl rfl) rfl (r_eql rfl)) ?_
  refine k_nil ?_
  obtain ⟨o13, H, G14⟩ := bindSome H
  refine k_cut (fun a w' => ∃ (s15 : Unit) (σ53 : Nat → Value), o13 = Sum.inl s15 ∧ a = st 62 [(1, .int .u32 a1)] σ53 [] ∧ Hp0 w w' []) ?_ ?_
  · refine k_if (tm rfl rfl) (fun h16 => ?_) (fun h16 => ?_)
    · have H := ift h16 H
      refine k_seq ?_
      refine k_region ?_
      refine sv (v := .int .u32 r12.1) rfl rfl rfl (e_move (tm rfl rfl)) ?_
      obtain ⟨r20, hx27, H⟩ := bindSome H
      refine s_call (.cons (tm rfl rfl) .nil) Try.call10 (isa_Decode.calls k r12.1 r20 _ hx27) rfl ?_
      rintro v_ w17 ⟨rfl, hb18⟩
      have hp19 := hp11.grow hb18
      refine sv (v := .tuple #[.agg #[.int .i64 r20.1.Op, .int .i64 r20.1.T, .int .i64 r20.1.A, .int .i64 r20.1.B, .int .i64 r20.1.Imm], .int .i64 r20.2]) rfl rfl rfl (e_move (tm rfl rfl)) ?_
      refine sv (v := .agg #[.int .i64 r20.1.Op, .int .i64 r20.1.T, .int .i64 r20.1.A, .int .i64 r20.1.B, .int .i64 r20.1.Imm]) rfl rfl rfl (e_extract (tm rfl rfl) rfl) ?_
      refine sv (v := .int .i64 r20.2) rfl rfl rfl (e_extract (tm rfl rfl) rfl) ?_
      refine s_alloc (zv := .agg #[.int .i64 0, .int .i64 0, .int .i64 0, .int .i64 0, .int .i64 0]) (l := [.int .i64 0, .int .i64 0, .int .i64 0, .int .i64 0, .int .i64 0]) hp19 (by intro w_; kernel_rfl) rfl rfl (fun b21 w22 hp23 => ?_)
      refine s_store (i := 1) (j := 0) (vs := [.int .i64 r20.1.Op, .int .i64 r20.1.T, .int .i64 r20.1.A, .int .i64 r20.1.B, .int .i64 r20.1.Imm]) (l' := [.int .i64 r20.1.Op, .int .i64 r20.1.T, .int .i64 r20.1.A, .int .i64 r20.1.B, .int .i64 r20.1.Imm]) hp23 (tm rfl rfl) (tm rfl rfl) rfl Try.sizeOf23 rfl rfl rfl rfl rfl rfl (fun w24 hp25 => ?_)
      refine sv (v := .int .i64 r20.2) rfl rfl rfl (e_assign (tm rfl rfl)) ?_
      refine k_nil ?_
      refine k_seq ?_
      refine k_region ?_
      refine sv (v := .int .i64 r20.2) rfl rfl rfl (e_move (tm rfl rfl)) ?_
      refine sv (v := .bool (!decide (r20.2 = 0))) rfl rfl rfl (e_bin (tm rfl rfl) rfl (r_neq rfl)) ?_
      refine sv (v := .bool (!decide (r20.2 = 0))) rfl rfl rfl (e_move (tm rfl rfl)) ?_
      refine s_gp (v := .agg #[.int .i64 r20.1.Op, .int .i64 r20.1.T, .int .i64 r20.1.A, .int .i64 r20.1.B, .int .i64 r20.1.Imm]) rfl rfl rfl (beq_f _) (fun g_ => e_loadA (tm rfl rfl) Try.isAgg23 Try.sizeOf23 rfl (cells_box (sz := 5) (hp25.get (i := 1) (j := 0) rfl rfl) rfl)) rfl ?_
      refine s_gp (v := .agg #[.int .i64 a0.Op, .int .i64 a0.T, .int .i64 a0.A, .int .i64 a0.B, .int .i64 a0.Imm]) rfl rfl rfl (beq_f _) (fun g_ => e_loadA (tm rfl rfl) Try.isAgg23 Try.sizeOf23 rfl (cells_box (sz := 5) (hp25.get (i := 0) (j := 0) rfl rfl) rfl)) rfl ?_
      refine s_gp (v := .bool (!((r20.1.Op == a0.Op) && ((r20.1.T == a0.T) && ((r20.1.A == a0.A) && ((r20.1.B == a0.B) && ((r20.1.Imm == a0.Imm) && true))))))) rfl rfl rfl (beq_f _) (fun g_ => e_bin (tmg (!(!decide (r20.2 = 0))) (.agg #[.int .i64 r20.1.Op, .int .i64 r20.1.T, .int .i64 r20.1.A, .int .i64 r20.1.B, .int .i64 r20.1.Imm]) rfl rfl g_) (tmg (!(!decide (r20.2 = 0))) (.agg #[.int .i64 a0.Op, .int .i64 a0.T, .int .i64 a0.A, .int .i64 a0.B, .int .i64 a0.Imm]) rfl rfl g_) (r_nes Try.underlying23 (by kernel_rfl) (by kernel_rfl) (q_cons rfl rfl rfl (q_int Try.underlying3) (q_cons rfl rfl rfl (q_int Try.underlying3) (q_cons rfl rfl rfl (q_int Try.underlying3) (q_cons rfl rfl rfl (q_int Try.underlying3) (q_cons rfl rfl rfl (q_int Try.underlying3) q_nil))))))) rfl ?_
      refine sv (v := .bool ((!decide (r20.2 = 0)) || (!((r20.1.Op == a0.Op) && ((r20.1.T == a0.T) && ((r20.1.A == a0.A) && ((r20.1.B == a0.B) && ((r20.1.Imm == a0.Imm) && true)))))))) rfl rfl rfl (e_pick (v1 := .bool true) (v2 := .bool (!((r20.1.Op == a0.Op) && ((r20.1.T == a0.T) && ((r20.1.A == a0.A) && ((r20.1.B == a0.B) && ((r20.1.Imm == a0.Imm) && true))))))) (tm rfl rfl) (fun _ => rfl) (fun h_ => tmg (!(!decide (r20.2 = 0))) (.bool (!((r20.1.Op == a0.Op) && ((r20.1.T == a0.T) && ((r20.1.A == a0.A) && ((r20.1.B == a0.B) && ((r20.1.Imm == a0.Imm) && true))))))) rfl rfl (nt h_)) (pk_or (!decide (r20.2 = 0)))) ?_
      refine k_nil ?_
      refine k_if (tm rfl rfl) (fun h26 => ?_) (fun h26 => ?_)
      · have H := ift h26 H
        refine k_seq ?_
        refine k_region ?_
        refine sv (v := .bool false) rfl rfl rfl (e_assign rfl) ?_
        refine k_nil ?_
        refine k_ret ?_
        obtain rfl := Option.some.inj H
        have H := G14
        obtain rfl := Option.some.inj H
        exact k_end rfl (.tmp rfl rfl .nil) rfl ⟨rfl, hp25.below⟩
      have H := iff_ h26 H
      refine k_skip ?_
      obtain rfl := Option.some.inj H
      exact ⟨(), _, rfl, seenF ⟨rfl, trivial⟩, hp25.pick [] (by decide) rfl⟩
    have H := iff_ h16 H
    refine k_seq ?_
    refine k_region ?_
    refine sv (v := .int .u32 r12.1) rfl rfl rfl (e_move (tm rfl rfl)) ?_
    refine sv (v := .bool (!decide (r12.1 = 0))) rfl rfl rfl (e_bin (tm rfl rfl) rfl (r_neq rfl)) ?_
    refine k_nil ?_
    refine k_if (tm rfl rfl) (fun h28 => ?_) (fun h28 => ?_)
    · have H := ift h28 H
      refine k_seq ?_
      refine k_region ?_
      refine sv (v := .bool false) rfl rfl rfl (e_assign rfl) ?_
      refine k_nil ?_
      refine k_ret ?_
      obtain rfl := Option.some.inj H
      have H := G14
      obtain rfl := Option.some.inj H
      exact k_end rfl (.tmp rfl rfl .nil) rfl ⟨rfl, hp11.below⟩
    have H := iff_ h28 H
    refine k_skip ?_
    obtain rfl := Option.some.inj H
    exact ⟨(), _, rfl, seenF ⟨rfl, trivial⟩, hp11.pick [] (by decide) rfl⟩
  clear H
  rintro a w' ⟨s15, σ32, rfl, rfl, hp30⟩
  have H := G14
  rw [Sum.elim_inl] at H
  refine k_seq ?_
  refine k_region ?_
  refine sv (v := .int .u32 a1) rfl rfl rfl (e_move (tm rfl rfl)) ?_
  obtain ⟨r36, hx48, H⟩ := bindSome H
  refine s_call (.cons (tm rfl rfl) .nil) Try.call10 (isa_Decode.calls k a1 r36 _ hx48) rfl ?_
  rintro v_ w33 ⟨rfl, hb34⟩
  have hp35 := hp30.grow hb34
  refine sv (v := .tuple #[.agg #[.int .i64 r36.1.Op, .int .i64 r36.1.T, .int .i64 r36.1.A, .int .i64 r36.1.B, .int .i64 r36.1.Imm], .int .i64 r36.2]) rfl rfl rfl (e_move (tm rfl rfl)) ?_
  refine sv (v := .agg #[.int .i64 r36.1.Op, .int .i64 r36.1.T, .int .i64 r36.1.A, .int .i64 r36.1.B, .int .i64 r36.1.Imm]) rfl rfl rfl (e_extract (tm rfl rfl) rfl) ?_
  refine sv (v := .int .i64 r36.2) rfl rfl rfl (e_extract (tm rfl rfl) rfl) ?_
  refine s_alloc (zv := .agg #[.int .i64 0, .int .i64 0, .int .i64 0, .int .i64 0, .int .i64 0]) (l := [.int .i64 0, .int .i64 0, .int .i64 0, .int .i64 0, .int .i64 0]) hp35 (by intro w_; kernel_rfl) rfl rfl (fun b37 w38 hp39 => ?_)
  refine s_store (i := 0) (j := 0) (vs := [.int .i64 r36.1.Op, .int .i64 r36.1.T, .int .i64 r36.1.A, .int .i64 r36.1.B, .int .i64 r36.1.Imm]) (l' := [.int .i64 r36.1.Op, .int .i64 r36.1.T, .int .i64 r36.1.A, .int .i64 r36.1.B, .int .i64 r36.1.Imm]) hp39 (tm rfl rfl) (tm rfl rfl) rfl Try.sizeOf23 rfl rfl rfl rfl rfl rfl (fun w40 hp41 => ?_)
  refine sv (v := .int .i64 r36.2) rfl rfl rfl (e_assign (tm rfl rfl)) ?_
  refine k_nil ?_
  refine k_seq ?_
  refine k_seq ?_
  refine k_region ?_
  refine sv (v := .int .i64 r36.2) rfl rfl rfl (e_move (tm rfl rfl)) ?_
  refine sv (v := .bool (!decide (r36.2 = 0))) rfl rfl rfl (e_bin (tm rfl rfl) rfl (r_neq rfl)) ?_
  refine k_nil ?_
  refine k_if (tm rfl rfl) (fun h42 => ?_) (fun h42 => ?_)
  · have H := ift h42 H
    refine k_seq ?_
    refine k_region ?_
    refine sv (v := .int .i64 r36.2) rfl rfl rfl (e_move (tm rfl rfl)) ?_
    refine sv (v := .bool (decide (r36.2 = 3))) rfl rfl rfl (e_bin (tm rfl rfl) rfl (r_eql rfl)) ?_
    refine sv (v := .bool (decide (r36.2 = 3))) rfl rfl rfl (e_move (tm rfl rfl)) ?_
    refine s_gp (v := .agg #[.int .i64 r36.1.Op, .int .i64 r36.1.T, .int .i64 r36.1.A, .int .i64 r36.1.B, .int .i64 r36.1.Imm]) rfl rfl rfl (beq_t _) (fun g_ => e_loadA (tm rfl rfl) Try.isAgg23 Try.sizeOf23 rfl (cells_box (sz := 5) (hp41.get (i := 0) (j := 0) rfl rfl) rfl)) rfl ?_
    refine s_gp (v := .agg #[.int .i64 0, .int .i64 0, .int .i64 0, .int .i64 0, .int .i64 0]) rfl rfl rfl (beq_t _) (fun g_ => e_build (vs := []) .nil (by kernel_rfl)) rfl ?_
    refine s_gp (v := .bool ((r36.1.Op == 0) && ((r36.1.T == 0) && ((r36.1.A == 0) && ((r36.1.B == 0) && ((r36.1.Imm == 0) && true)))))) rfl rfl rfl (beq_t _) (fun g_ => e_bin (tmg (decide (r36.2 = 3)) (.agg #[.int .i64 r36.1.Op, .int .i64 r36.1.T, .int .i64 r36.1.A, .int .i64 r36.1.B, .int .i64 r36.1.Imm]) rfl rfl g_) (tmg (decide (r36.2 = 3)) (.agg #[.int .i64 0, .int .i64 0, .int .i64 0, .int .i64 0, .int .i64 0]) rfl rfl g_) (r_eqs Try.underlying23 (by kernel_rfl) (by kernel_rfl) (q_cons rfl rfl rfl (q_int Try.underlying3) (q_cons rfl rfl rfl (q_int Try.underlying3) (q_cons rfl rfl rfl (q_int Try.underlying3) (q_cons rfl rfl rfl (q_int Try.underlying3) (q_cons rfl rfl rfl (q_int Try.underlying3) q_nil))))))) rfl ?_
    refine sv (v := .bool ((decide (r36.2 = 3)) && ((r36.1.Op == 0) && ((r36.1.T == 0) && ((r36.1.A == 0) && ((r36.1.B == 0) && ((r36.1.Imm == 0) && true))))))) rfl rfl rfl (e_pick (v1 := .bool ((r36.1.Op == 0) && ((r36.1.T == 0) && ((r36.1.A == 0) && ((r36.1.B == 0) && ((r36.1.Imm == 0) && true)))))) (v2 := .bool false) (tm rfl rfl) (fun h_ => tmg (decide (r36.2 = 3)) (.bool ((r36.1.Op == 0) && ((r36.1.T == 0) && ((r36.1.A == 0) && ((r36.1.B == 0) && ((r36.1.Imm == 0) && true)))))) rfl rfl h_) (fun _ => rfl) (pk_and (decide (r36.2 = 3)))) ?_
    refine sv (v := .bool ((decide (r36.2 = 3)) && ((r36.1.Op == 0) && ((r36.1.T == 0) && ((r36.1.A == 0) && ((r36.1.B == 0) && ((r36.1.Imm == 0) && true))))))) rfl rfl rfl (e_assign (tm rfl rfl)) ?_
    refine k_nil ?_
    refine k_ret ?_
    obtain rfl := Option.some.inj H
    exact k_end rfl (.tmp rfl rfl .nil) rfl ⟨rfl, hp41.below⟩
  have H := iff_ h42 H
  refine k_skip ?_
  refine k_seq ?_
  refine k_region ?_
  refine sv (v := .agg #[.int .i64 r36.1.Op, .int .i64 r36.1.T, .int .i64 r36.1.A, .int .i64 r36.1.B, .int .i64 r36.1.Imm]) rfl rfl rfl (e_loadA (tm rfl rfl) Try.isAgg23 Try.sizeOf23 rfl (cells_box (sz := 5) (hp41.get (i := 0) (j := 0) rfl rfl) rfl)) ?_
  obtain ⟨r46, hx47, H⟩ := bindSome H
  refine s_call (.cons (tm rfl rfl) .nil) Try.call8 (isa_Encode.calls (⟨r36.1.Op, r36.1.T, r36.1.A, r36.1.B, r36.1.Imm⟩ : api_Inst) r46 _ hx47) rfl ?_
  rintro v_ w43 ⟨rfl, hb44⟩
  have hp45 := hp41.grow hb44
  refine sv (v := .tuple #[.int .u32 r46.1, .int .i64 r46.2]) rfl rfl rfl (e_move (tm rfl rfl)) ?_
  refine sv (v := .int .u32 r46.1) rfl rfl rfl (e_extract (tm rfl rfl) rfl) ?_
  refine sv (v := .int .i64 r46.2) rfl rfl rfl (e_extract (tm rfl rfl) rfl) ?_
  refine sv (v := .int .u32 r46.1) rfl rfl rfl (e_assign (tm rfl rfl)) ?_
  refine sv (v := .int .i64 r46.2) rfl rfl rfl (e_assign (tm rfl rfl)) ?_
  refine k_nil ?_
  refine k_seq ?_
  refine k_region ?_
  refine sv (v := .int .i64 r46.2) rfl rfl rfl (e_move (tm rfl rfl)) ?_
  refine sv (v := .bool (decide (r46.2 = 0))) rfl rfl rfl (e_bin (tm rfl rfl) rfl (r_eql rfl)) ?_
  refine sv (v := .bool (decide (r46.2 = 0))) rfl rfl rfl (e_move (tm rfl rfl)) ?_
  refine s_gp (v := .int .u32 r46.1) rfl rfl rfl (beq_t _) (fun g_ => e_move (tm rfl rfl)) rfl ?_
  refine s_gp (v := .int .u32 a1) rfl rfl rfl (beq_t _) (fun g_ => e_move (tm rfl rfl)) rfl ?_
  refine s_gp (v := .bool (decide (r46.1 = a1))) rfl rfl rfl (beq_t _) (fun g_ => e_bin (tmg (decide (r46.2 = 0)) (.int .u32 r46.1) rfl rfl g_) (tmg (decide (r46.2 = 0)) (.int .u32 a1) rfl rfl g_) (r_eql rfl)) rfl ?_
  refine sv (v := .bool ((decide (r46.2 = 0)) && (decide (r46.1 = a1)))) rfl rfl rfl (e_pick (v1 := .bool (decide (r46.1 = a1))) (v2 := .bool false) (tm rfl rfl) (fun h_ => tmg (decide (r46.2 = 0)) (.bool (decide (r46.1 = a1))) rfl rfl h_) (fun _ => rfl) (pk_and (decide (r46.2 = 0)))) ?_
  refine sv (v := .bool ((decide (r46.2 = 0)) && (decide (r46.1 = a1)))) rfl rfl rfl (e_assign (tm rfl rfl)) ?_
  refine k_nil ?_
  refine k_ret ?_
  obtain rfl := Option.some.inj H
  exact k_end rfl (.tmp rfl rfl .nil) rfl ⟨rfl, hp45.below⟩

end Go.Proofs.Ytallojficgiemaa.W

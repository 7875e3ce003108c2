/- Functions of the program as plain Lean functions, and that the calls do what they say: written by w2.py. -/
import Derived.Test.YtcnchjlomcafeaaDefer
import Derived.Test.YtcnchjlomcafeaaTy
set_option linter.unusedVariables false
set_option linter.unusedSimpArgs false
set_option linter.unusedSectionVars false
namespace Go.Proofs.Ytcnchjlomcafeaa.W
open Go Go.RowKit Go.Proofs.Ytcnchjlomcafeaa.B
attribute [local irreducible] Go.wpList Go.Code.wp Go.Region.wanted Go.yielded
/-! ### selvage/thread.two: function 35 -/
def thread_two.m (a0 : Int) (a1 : thread_cell) (a2 : thread_cell) : thread_cell :=
  (⟨a0, bits .or .u64 a1.hang a2.hang⟩ : thread_cell)
set_option maxHeartbeats 4000000 in
set_option maxRecDepth 100000 in
theorem thread_two.calls (a0 : Int) (a1 : thread_cell) (a2 : thread_cell) (w : World) :
    Ret Try.prog 35 [.int .i64 a0, .agg #[.int .i64 a1.n, .int .u64 a1.hang], .agg #[.int .i64 a2.n, .int .u64 a2.hang]] w fun v w' => v = .agg #[.int .i64 ((thread_two.m a0 a1 a2).n), .int .u64 ((thread_two.m a0 a1 a2).hang)] ∧ Aft w w' [] [] := by
  obtain ⟨r, H⟩ : ∃ r, thread_two.m a0 a1 a2 = r := ⟨_, rfl⟩
  rw [H]
  unfold thread_two.m at H
  have hp0 := Hp.startR (F := no) (R := []) (Have.nil w) (fun _ h => h.elim)
  have ep0 := Ep.refl no [] w
  refine enter (L := [(0, .int .i64 a0), (1, .agg #[.int .i64 a1.n, .int .u64 a1.hang]), (2, .agg #[.int .i64 a2.n, .int .u64 a2.hang])]) Try.func35 rfl Try.ntmps35 rfl rfl ?_
  refine k_seq ?_
  refine k_region ?_
  refine s_box (l := [.int .i64 a1.n, .int .u64 a1.hang]) hp0 (tm rfl rfl) rfl rfl (fun b_1 w_2 hp_3 => ?_)
  refine s_box (l := [.int .i64 a2.n, .int .u64 a2.hang]) hp_3 (tm rfl rfl) rfl rfl (fun b_4 w_5 hp_6 => ?_)
  refine s_alloc (zv := .agg #[.int .i64 0, .int .u64 0]) (l := [.int .i64 0, .int .u64 0]) hp_6 (by intro w_; kernel_rfl) rfl rfl (fun b_7 w_8 hp_9 => ?_)
  refine k_nil ?_
  refine k_seq ?_
  refine k_region ?_
  refine sv (v := .int .i64 a0) rfl rfl rfl (e_move (tm rfl rfl)) ?_
  refine sv (v := .pointer (some ⟨b_1, 1, none⟩)) rfl rfl rfl (e_fieldAddr (tm rfl rfl) Try.runUnderlying55 rfl Try.sizeOf31 rfl rfl) ?_
  refine sv (v := .int .u64 a1.hang) rfl rfl rfl (e_load1 (tm rfl rfl) Try.isAgg31 (cell_atL (hp_9.get (i := 0) (j := 0) rfl rfl) rfl)) ?_
  refine sv (v := .pointer (some ⟨b_4, 1, none⟩)) rfl rfl rfl (e_fieldAddr (tm rfl rfl) Try.runUnderlying55 rfl Try.sizeOf31 rfl rfl) ?_
  refine sv (v := .int .u64 a2.hang) rfl rfl rfl (e_load1 (tm rfl rfl) Try.isAgg31 (cell_atL (hp_9.get (i := 1) (j := 0) rfl rfl) rfl)) ?_
  refine sv (v := .int .u64 (bits .or .u64 a1.hang a2.hang)) rfl rfl rfl (e_bin (tm rfl rfl) (tm rfl rfl) (r_bits (by simp) rfl)) ?_
  refine sv (v := .agg #[.int .i64 a0, .int .u64 (bits .or .u64 a1.hang a2.hang)]) rfl rfl rfl (e_build (vs := [(0, .int .i64 a0), (1, .int .u64 (bits .or .u64 a1.hang a2.hang))]) (cs := [.int .i64 a0, .int .u64 (bits .or .u64 a1.hang a2.hang)]) (.cons (tm rfl rfl) (.cons (tm rfl rfl) .nil)) (by kernel_rfl)) ?_
  refine s_store (i := 2) (j := 0) (vs := [.int .i64 a0, .int .u64 (bits .or .u64 a1.hang a2.hang)]) (l' := [.int .i64 a0, .int .u64 (bits .or .u64 a1.hang a2.hang)]) hp_9 (tm rfl rfl) (tm rfl rfl) rfl Try.sizeOf55 rfl rfl rfl rfl rfl rfl (fun w_10 hp_11 => ?_)
  refine k_nil ?_
  refine k_ret ?_
  obtain rfl := id H
  exact k_end rfl (.cell rfl rfl (r_loadA Try.isAgg55 Try.sizeOf55 rfl (cells_box (sz := 2) (hp_11.get (i := 2) (j := 0) rfl rfl) rfl)) .nil) rfl ⟨rfl, (hp_11.pick [] (by decide) rfl).aft⟩

end Go.Proofs.Ytcnchjlomcafeaa.W

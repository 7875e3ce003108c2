/- Functions of the program as plain Lean functions, and that the calls do what they say: written by wip/tools/walk.py. -/
import Derived.Test.YtallojficgiemaaTy
import Derived.Test.YtallojficgiemaaF0
import Derived.Test.YtallojficgiemaaF1
import Derived.Test.YtallojficgiemaaF2
import Derived.Test.YtallojficgiemaaF3
import Derived.Test.YtallojficgiemaaF4
import Derived.Test.YtallojficgiemaaF5
import Derived.Test.YtallojficgiemaaF6
import Derived.Test.YtallojficgiemaaF7
import Derived.Test.YtallojficgiemaaF8
import Derived.Test.YtallojficgiemaaF9
set_option linter.unusedVariables false
set_option linter.unusedSimpArgs false
set_option linter.unusedSectionVars false
namespace Go.Proofs.Ytallojficgiemaa.W
open Go Go.RowKit Go.Proofs.Ytallojficgiemaa.B
attribute [local irreducible] Go.wpList Go.Code.wp Go.Region.wanted Go.yielded
/-! ### (selvage/selvageref15.word).put: function 19 -/
def selvageref15_word_put.l0 (a1 : Int) : Nat → Int × Int → Option Int
  | 0, _ => none
  | k + 1, x21 => if (decide (x21.2 ≥ 0)) = true then (selvageref15_word_put.l0 a1 k ((((x21.1 * 2) % 4294967296) + ((bits .and .i64 (a1 / 2 ^ (min ((x21.2) % 18446744073709551616).toNat 64)) 1) % 4294967296)) % 4294967296, wrap64 (x21.2 - 1))) else (some x21.1)
def selvageref15_word_put.m (k : Nat) (a0 : selvageref15_word) (a1 : Int) (a2 : Int) : Option (selvageref15_word) := (selvageref15_word_put.l0 a1 k (a0.w, wrap64 (a2 - 1))).bind fun o7 => (some (⟨o7, wrap64 (a0.bits + a2)⟩ : selvageref15_word))
set_option maxHeartbeats 4000000 in
set_option maxRecDepth 100000 in
theorem selvageref15_word_put.calls (k : Nat) (a0 : selvageref15_word) (a1 : Int) (a2 : Int) (r : selvageref15_word) (w : World) (H : selvageref15_word_put.m k a0 a1 a2 = some r) :
    Ret Try.prog 19 [.agg #[.int .u32 a0.w, .int .i64 a0.bits], .int .i64 a1, .int .i64 a2] w fun v w' => v = .agg #[.int .u32 r.w, .int .i64 r.bits] ∧ Below w.heap.size w w' := by
  unfold selvageref15_word_put.m at H
  have hp0 := Hp.start w
  refine enter (L := [(0, .agg #[.int .u32 a0.w, .int .i64 a0.bits]), (1, .int .i64 a1), (2, .int .i64 a2)]) Try.func19 rfl Try.ntmps19 rfl rfl ?_
  refine k_seq ?_
  refine k_region ?_
  refine s_box hp0 (tm rfl rfl) rfl rfl (fun b1 w2 hp3 => ?_)
  refine s_alloc (zv := .agg #[.int .u32 0, .int .i64 0]) (l := [.int .u32 0, .int .i64 0]) hp3 (by intro w_; kernel_rfl) rfl rfl (fun b4 w5 hp6 => ?_)
  refine k_nil ?_
  refine k_seq ?_
  refine k_seq ?_
  refine k_region ?_
  refine sv (v := .int .i64 a2) rfl rfl rfl (e_move (tm rfl rfl)) ?_
  refine sv (v := .int .i64 (wrap64 (a2 - 1))) rfl rfl rfl (e_bin (tm rfl rfl) rfl (r_sub (wrap_i64 _))) ?_
  refine sv (v := .int .i64 (wrap64 (a2 - 1))) rfl rfl rfl (e_assign (tm rfl rfl)) ?_
  refine k_nil ?_
  obtain ⟨o7, H, G8⟩ := bindSome H
  refine k_cut (fun a w' => ∃ (σ43 : Nat → Value) (b44 : Nat) (b45 : Nat), a = st 32 [(2, .int .i64 a2), (3, .pointer (some ⟨b44, 0, none⟩)), (6, .pointer (some ⟨b45, 0, none⟩))] σ43 [] ∧ Hp0 w w' [[(b44, .cells #[.int .u32 o7, .int .i64 a0.bits] 51 (0, 0))], [(b45, .cells #[.int .u32 0, .int .i64 0] 51 (0, 0))]]) ?_ ?_
  · refine k_block ?_
    refine k_loopg (fun m a w' => ∃ (x21 : Int × Int) (σ34 : Nat → Value) (b35 : Nat) (b36 : Nat), a = st 32 [(1, .int .i64 a1), (2, .int .i64 a2), (3, .pointer (some ⟨b35, 0, none⟩)), (6, .pointer (some ⟨b36, 0, none⟩)), (7, .int .i64 x21.2)] σ34 [] ∧ Hp0 w w' [[(b35, .cells #[.int .u32 x21.1, .int .i64 a0.bits] 51 (0, 0))], [(b36, .cells #[.int .u32 0, .int .i64 0] 51 (0, 0))]] ∧ selvageref15_word_put.l0 a1 m x21 = some o7) k ⟨(a0.w, wrap64 (a2 - 1)), _, b1, b4, seenF ⟨rfl, rfl, rfl, rfl, rfl, trivial⟩, hp6, H⟩ ?_
    clear H
    rintro m a w' ⟨x21, σ25, b26, b27, rfl, hp23, H⟩
    obtain ⟨k, rfl⟩ := fuel (f := fun k => selvageref15_word_put.l0 a1 k x21) rfl H
    rw [selvageref15_word_put.l0] at H
    refine k_seq ?_
    refine k_seq ?_
    refine k_region ?_
    refine sv (v := .int .i64 x21.2) rfl rfl rfl (e_move (tm rfl rfl)) ?_
    refine sv (v := .bool (decide (x21.2 ≥ 0))) rfl rfl rfl (e_bin (tm rfl rfl) rfl (r_geq rfl)) ?_
    refine k_nil ?_
    refine k_if (tm rfl rfl) (fun h28 => ?_) (fun h28 => ?_)
    · have H := ift h28 H
      refine k_skip ?_
      refine k_seq ?_
      refine k_block ?_
      refine k_region ?_
      refine sv (v := .pointer (some ⟨b26, 0, none⟩)) rfl rfl rfl (e_fieldAddr (tm rfl rfl) Try.runUnderlying51 rfl Try.sizeOf25 rfl rfl) ?_
      refine sv (v := .int .u32 x21.1) rfl rfl rfl (e_load1 (tm rfl rfl) Try.isAgg25 (cell_at (hp23.get (i := 0) (j := 0) rfl rfl) rfl)) ?_
      refine sv (v := .int .u32 ((x21.1 * 2) % 4294967296)) rfl rfl rfl (e_bin (tm rfl rfl) rfl (r_mul (wrap_u32 _))) ?_
      refine sv (v := .int .i64 a1) rfl rfl rfl (e_move (tm rfl rfl)) ?_
      refine sv (v := .int .i64 x21.2) rfl rfl rfl (e_move (tm rfl rfl)) ?_
      refine sv (v := .int .u64 ((x21.2) % 18446744073709551616)) rfl rfl rfl (e_conv (tm rfl rfl) Try.runUnderlying3 Try.runUnderlying43 (wrap_u64 _)) ?_
      refine sv (v := .int .i64 (a1 / 2 ^ (min ((x21.2) % 18446744073709551616).toNat 64))) rfl rfl rfl (e_bin (tm rfl rfl) (tm rfl rfl) (r_shr (Int.emod_nonneg _ (by decide)) (fdp _ _ rfl))) ?_
      refine sv (v := .int .i64 (bits .and .i64 (a1 / 2 ^ (min ((x21.2) % 18446744073709551616).toNat 64)) 1)) rfl rfl rfl (e_bin (tm rfl rfl) rfl (r_bits (by simp) rfl)) ?_
      refine sv (v := .int .u32 ((bits .and .i64 (a1 / 2 ^ (min ((x21.2) % 18446744073709551616).toNat 64)) 1) % 4294967296)) rfl rfl rfl (e_conv (tm rfl rfl) Try.runUnderlying3 Try.runUnderlying25 (wrap_u32 _)) ?_
      refine sv (v := .int .u32 ((((x21.1 * 2) % 4294967296) + ((bits .and .i64 (a1 / 2 ^ (min ((x21.2) % 18446744073709551616).toNat 64)) 1) % 4294967296)) % 4294967296)) rfl rfl rfl (e_bin (tm rfl rfl) (tm rfl rfl) (r_add (wrap_u32 _))) ?_
      refine sv (v := .pointer (some ⟨b26, 0, none⟩)) rfl rfl rfl (e_fieldAddr (tm rfl rfl) Try.runUnderlying51 rfl Try.sizeOf25 rfl rfl) ?_
      refine s_store (i := 0) (j := 0) (vs := [.int .u32 ((((x21.1 * 2) % 4294967296) + ((bits .and .i64 (a1 / 2 ^ (min ((x21.2) % 18446744073709551616).toNat 64)) 1) % 4294967296)) % 4294967296)]) (l' := [.int .u32 ((((x21.1 * 2) % 4294967296) + ((bits .and .i64 (a1 / 2 ^ (min ((x21.2) % 18446744073709551616).toNat 64)) 1) % 4294967296)) % 4294967296), .int .i64 a0.bits]) hp23 (tm rfl rfl) (tm rfl rfl) rfl Try.sizeOf25 rfl rfl rfl rfl rfl rfl (fun w29 hp30 => ?_)
      refine k_nil ?_
      refine k_region ?_
      refine sv (v := .int .i64 x21.2) rfl rfl rfl (e_move (tm rfl rfl)) ?_
      refine sv (v := .int .i64 (wrap64 (x21.2 - 1))) rfl rfl rfl (e_bin (tm rfl rfl) rfl (r_sub (wrap_i64 _))) ?_
      refine sv (v := .int .i64 (wrap64 (x21.2 - 1))) rfl rfl rfl (e_assign (tm rfl rfl)) ?_
      refine k_nil ?_
      exact ⟨_, Nat.lt_succ_self _, ⟨((((x21.1 * 2) % 4294967296) + ((bits .and .i64 (a1 / 2 ^ (min ((x21.2) % 18446744073709551616).toNat 64)) 1) % 4294967296)) % 4294967296, wrap64 (x21.2 - 1)), _, b26, b27, seenF ⟨rfl, rfl, rfl, rfl, rfl, trivial⟩, hp30, H⟩⟩
    have H := iff_ h28 H
    refine k_exit ?_
    refine q_here ?_
    obtain rfl := Option.some.inj H
    exact ⟨_, b26, b27, seenF ⟨rfl, rfl, rfl, trivial⟩, hp23⟩
  clear H
  rintro a w' ⟨σ34, b35, b36, rfl, hp32⟩
  have H := G8
  refine k_seq ?_
  refine k_region ?_
  refine sv (v := .pointer (some ⟨b35, 0, none⟩)) rfl rfl rfl (e_fieldAddr (tm rfl rfl) Try.runUnderlying51 rfl Try.sizeOf25 rfl rfl) ?_
  refine sv (v := .int .u32 o7) rfl rfl rfl (e_load1 (tm rfl rfl) Try.isAgg25 (cell_at (hp32.get (i := 0) (j := 0) rfl rfl) rfl)) ?_
  refine sv (v := .pointer (some ⟨b35, 1, none⟩)) rfl rfl rfl (e_fieldAddr (tm rfl rfl) Try.runUnderlying51 rfl Try.sizeOf3 rfl rfl) ?_
  refine sv (v := .int .i64 a0.bits) rfl rfl rfl (e_load1 (tm rfl rfl) Try.isAgg3 (cell_at (hp32.get (i := 0) (j := 0) rfl rfl) rfl)) ?_
  refine sv (v := .int .i64 a2) rfl rfl rfl (e_move (tm rfl rfl)) ?_
  refine sv (v := .int .i64 (wrap64 (a0.bits + a2))) rfl rfl rfl (e_bin (tm rfl rfl) (tm rfl rfl) (r_add (wrap_i64 _))) ?_
  refine sv (v := .agg #[.int .u32 o7, .int .i64 (wrap64 (a0.bits + a2))]) rfl rfl rfl (e_build (vs := [(0, .int .u32 o7), (1, .int .i64 (wrap64 (a0.bits + a2)))]) (.cons (tm rfl rfl) (.cons (tm rfl rfl) .nil)) (by kernel_rfl)) ?_
  refine s_store (i := 1) (j := 0) (vs := [.int .u32 o7, .int .i64 (wrap64 (a0.bits + a2))]) (l' := [.int .u32 o7, .int .i64 (wrap64 (a0.bits + a2))]) hp32 (tm rfl rfl) (tm rfl rfl) rfl Try.sizeOf51 rfl rfl rfl rfl rfl rfl (fun w37 hp38 => ?_)
  refine k_nil ?_
  refine k_ret ?_
  obtain rfl := Option.some.inj H
  exact k_end rfl (.cell rfl rfl (r_loadA Try.isAgg51 Try.sizeOf51 rfl (cells_box (sz := 2) (hp38.get (i := 1) (j := 0) rfl rfl) rfl)) .nil) rfl ⟨rfl, hp38.below⟩

end Go.Proofs.Ytallojficgiemaa.W

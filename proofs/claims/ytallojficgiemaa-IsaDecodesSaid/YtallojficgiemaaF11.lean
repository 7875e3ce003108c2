/- Functions of the program as plain Lean functions, and that the calls do what they say: written by wip/tools/walk.py. -/
import Derived.Test.YtallojficgiemaaTy
import Derived.Test.YtallojficgiemaaF0
import Derived.Test.YtallojficgiemaaF1
import Derived.Test.YtallojficgiemaaF2
import Derived.Test.YtallojficgiemaaF3
import Derived.Test.YtallojficgiemaaF4
import Derived.Test.YtallojficgiemaaF5
import Derived.Test.YtallojficgiemaaF6
import Derived.Test.YtallojficgiemaaF7
import Derived.Test.YtallojficgiemaaF8
import Derived.Test.YtallojficgiemaaF9
import Derived.Test.YtallojficgiemaaF10
set_option linter.unusedVariables false
set_option linter.unusedSimpArgs false
set_option linter.unusedSectionVars false
namespace Go.Proofs.Ytallojficgiemaa.W
open Go Go.RowKit Go.Proofs.Ytallojficgiemaa.B
attribute [local irreducible] Go.wpList Go.Code.wp Go.Region.wanted Go.yielded
/-! ### selvage/selvageref15.pick: function 20 -/
def selvageref15_pick.l0 (a0 : Int) (a1 : List Int) (a2 : List Int) : Nat → Int → Option (Unit ⊕ Int)
  | 0, _ => none
  | k + 1, x14 => if (decide (x14 < ((a1.length) : Int))) = true then (if 0 ≤ x14 ∧ x14 < ((a1.length) : Int) then (if (decide ((gi (intE .i64) a1 x14) = a0)) = true then (if 0 ≤ x14 ∧ x14 < ((a2.length) : Int) then (some (Sum.inr (gi (intE .i64) a2 x14))) else none) else (selvageref15_pick.l0 a0 a1 a2 k (wrap64 (x14 + 1)))) else none) else (some (Sum.inl ()))
def selvageref15_pick.m (k : Nat) (a0 : Int) (a1 : List Int) (a2 : List Int) : Option (Int) := (selvageref15_pick.l0 a0 a1 a2 k 0).bind fun o1 => Sum.elim (fun s3 => (some (-1))) (fun r31 => some r31) o1
set_option maxHeartbeats 4000000 in
set_option maxRecDepth 100000 in
theorem selvageref15_pick.calls (k : Nat) (a0 : Int) (A1 : Option Addr) (c1 : Nat) (a1 : List Int) (A2 : Option Addr) (c2 : Nat) (a2 : List Int) (r : Int) (w : World) (h1 : RdS (intE .i64) (fun _ => True) w A1 c1 a1) (h2 : RdS (intE .i64) (fun _ => True) w A2 c2 a2) (H : selvageref15_pick.m k a0 a1 a2 = some r) :
    Ret Try.prog 20 [.int .i64 a0, .slice A1 (a1.length) c1, .slice A2 (a2.length) c2] w fun v w' => v = .int .i64 r ∧ Below w.heap.size w w' := by
  have q1 := h1.closed
  have q2 := h2.closed
  unfold selvageref15_pick.m at H
  have hp0 := Hp.start w
  refine enter (L := [(0, .int .i64 a0), (1, .slice A1 (a1.length) c1), (2, .slice A2 (a2.length) c2)]) Try.func20 rfl Try.ntmps20 rfl rfl ?_
  refine k_seq ?_
  refine k_region ?_
  refine sv (v := .int .i64 0) rfl rfl rfl (e_assign rfl) ?_
  refine k_nil ?_
  refine k_seq ?_
  refine k_seq ?_
  refine k_region ?_
  refine sv (v := .int .i64 0) rfl rfl rfl (e_assign rfl) ?_
  refine k_nil ?_
  obtain ⟨o1, H, G2⟩ := bindSome H
  refine k_cut (fun a w' => ∃ (s3 : Unit) (σ35 : Nat → Value), o1 = Sum.inl s3 ∧ a = st 24 [] σ35 [] ∧ Hp0 w w' []) ?_ ?_
  · refine k_block ?_
    refine k_loopg (fun m a w' => ∃ (x14 : Int) (σ30 : Nat → Value), a = st 24 [(0, .int .i64 a0), (1, .slice A1 (a1.length) c1), (2, .slice A2 (a2.length) c2), (7, .int .i64 x14)] σ30 [] ∧ Hp0 w w' [] ∧ selvageref15_pick.l0 a0 a1 a2 m x14 = some o1) k ⟨0, _, seenF ⟨rfl, rfl, rfl, rfl, trivial⟩, hp0, H⟩ ?_
    clear H
    rintro m a w' ⟨x14, σ18, rfl, hp16, H⟩
    obtain ⟨k, rfl⟩ := fuel (f := fun k => selvageref15_pick.l0 a0 a1 a2 k x14) rfl H
    rw [selvageref15_pick.l0] at H
    refine k_seq ?_
    refine k_seq ?_
    refine k_region ?_
    refine sv (v := .int .i64 x14) rfl rfl rfl (e_move (tm rfl rfl)) ?_
    refine sv (v := .slice A1 (a1.length) c1) rfl rfl rfl (e_move (tm rfl rfl)) ?_
    refine sv (v := .int .i64 ((a1.length) : Int)) rfl rfl rfl (e_builtin (.cons (tm rfl rfl) .nil) (r_lens Try.runUnderlying54)) ?_
    refine sv (v := .bool (decide (x14 < ((a1.length) : Int)))) rfl rfl rfl (e_bin (tm rfl rfl) (tm rfl rfl) (r_lss rfl)) ?_
    refine k_nil ?_
    refine k_if (tm rfl rfl) (fun h19 => ?_) (fun h19 => ?_)
    · have H := ift h19 H
      refine k_skip ?_
      refine k_seq ?_
      refine k_block ?_
      refine k_seq ?_
      refine k_region ?_
      refine sv (v := .slice A1 (a1.length) c1) rfl rfl rfl (e_move (tm rfl rfl)) ?_
      refine sv (v := .int .i64 x14) rfl rfl rfl (e_move (tm rfl rfl)) ?_
      obtain ⟨g20, H⟩ := grd H
      refine s_idx (tm rfl rfl) (tm rfl rfl) Try.runUnderlying54 Try.sizeOf3 (q1.now hp16) g20.1 g20.2 rfl (fun a21 C22 => ?_)
      refine sv (v := .int .i64 (gi (intE .i64) a1 x14)) rfl rfl rfl (e_load1 (tm rfl rfl) Try.isAgg3 (cells_zero C22 rfl)) ?_
      refine sv (v := .int .i64 a0) rfl rfl rfl (e_move (tm rfl rfl)) ?_
      refine sv (v := .bool (decide ((gi (intE .i64) a1 x14) = a0))) rfl rfl rfl (e_bin (tm rfl rfl) (tm rfl rfl) (r_eql rfl)) ?_
      refine k_nil ?_
      refine k_if (tm rfl rfl) (fun h23 => ?_) (fun h23 => ?_)
      · have H := ift h23 H
        refine k_seq ?_
        refine k_region ?_
        refine sv (v := .slice A2 (a2.length) c2) rfl rfl rfl (e_move (tm rfl rfl)) ?_
        refine sv (v := .int .i64 x14) rfl rfl rfl (e_move (tm rfl rfl)) ?_
        obtain ⟨g24, H⟩ := grd H
        refine s_idx (tm rfl rfl) (tm rfl rfl) Try.runUnderlying54 Try.sizeOf3 (q2.now hp16) g24.1 g24.2 rfl (fun a25 C26 => ?_)
        refine sv (v := .int .i64 (gi (intE .i64) a2 x14)) rfl rfl rfl (e_load1 (tm rfl rfl) Try.isAgg3 (cells_zero C26 rfl)) ?_
        refine sv (v := .int .i64 (gi (intE .i64) a2 x14)) rfl rfl rfl (e_assign (tm rfl rfl)) ?_
        refine k_nil ?_
        refine k_ret ?_
        refine q_ret ?_
        refine q_ret ?_
        obtain rfl := Option.some.inj H
        have H := G2
        obtain rfl := Option.some.inj H
        exact k_end rfl (.tmp rfl rfl .nil) rfl ⟨rfl, hp16.below⟩
      have H := iff_ h23 H
      refine k_skip ?_
      refine k_region ?_
      refine sv (v := .int .i64 x14) rfl rfl rfl (e_move (tm rfl rfl)) ?_
      refine sv (v := .int .i64 (wrap64 (x14 + 1))) rfl rfl rfl (e_bin (tm rfl rfl) rfl (r_add (wrap_i64 _))) ?_
      refine sv (v := .int .i64 (wrap64 (x14 + 1))) rfl rfl rfl (e_assign (tm rfl rfl)) ?_
      refine k_nil ?_
      exact ⟨_, Nat.lt_succ_self _, ⟨wrap64 (x14 + 1), _, seenF ⟨rfl, rfl, rfl, rfl, trivial⟩, hp16, H⟩⟩
    have H := iff_ h19 H
    refine k_exit ?_
    refine q_here ?_
    obtain rfl := Option.some.inj H
    exact ⟨(), _, rfl, seenF trivial, hp16⟩
  clear H
  rintro a w' ⟨s3, σ30, rfl, rfl, hp28⟩
  have H := G2
  rw [Sum.elim_inl] at H
  refine k_seq ?_
  refine k_region ?_
  refine sv (v := .int .i64 (-1)) rfl rfl rfl (e_assign rfl) ?_
  refine k_nil ?_
  refine k_ret ?_
  obtain rfl := Option.some.inj H
  exact k_end rfl (.tmp rfl rfl .nil) rfl ⟨rfl, hp28.below⟩

end Go.Proofs.Ytallojficgiemaa.W

/- Functions of the program as plain Lean functions, and that the calls do what they say: written by wip/tools/walk.py. -/
import Derived.Test.YtallojficgiemaaTy
import Derived.Test.YtallojficgiemaaF0
import Derived.Test.YtallojficgiemaaF1
import Derived.Test.YtallojficgiemaaF2
import Derived.Test.YtallojficgiemaaF3
import Derived.Test.YtallojficgiemaaF4
import Derived.Test.YtallojficgiemaaF5
import Derived.Test.YtallojficgiemaaF6
import Derived.Test.YtallojficgiemaaF7
set_option linter.unusedVariables false
set_option linter.unusedSimpArgs false
set_option linter.unusedSectionVars false
namespace Go.Proofs.Ytallojficgiemaa.W
open Go Go.RowKit Go.Proofs.Ytallojficgiemaa.B
attribute [local irreducible] Go.wpList Go.Code.wp Go.Region.wanted Go.yielded
/-! ### selvage/selvageref15.has: function 17 -/
def selvageref15_has.l0 (a0 : ByteArray) (a1 : Int) : Nat → Int → Option (Unit ⊕ Bool)
  | 0, _ => none
  | k + 1, x14 => if (decide (x14 < (a0.size : Int))) = true then (if 0 ≤ x14 ∧ x14 < (a0.size : Int) then (if (decide ((sb a0 x14) = a1)) = true then (some (Sum.inr true)) else (selvageref15_has.l0 a0 a1 k (wrap64 (x14 + 1)))) else none) else (some (Sum.inl ()))
def selvageref15_has.m (k : Nat) (a0 : ByteArray) (a1 : Int) : Option (Bool) := (selvageref15_has.l0 a0 a1 k 0).bind fun o1 => Sum.elim (fun s3 => (some false)) (fun r26 => some r26) o1
set_option maxHeartbeats 4000000 in
set_option maxRecDepth 100000 in
theorem selvageref15_has.calls (k : Nat) (a0 : ByteArray) (a1 : Int) (r : Bool) (w : World) (H : selvageref15_has.m k a0 a1 = some r) :
    Ret Try.prog 17 [.string a0, .int .u8 a1] w fun v w' => v = .bool r ∧ Below w.heap.size w w' := by
  unfold selvageref15_has.m at H
  have hp0 := Hp.start w
  refine enter (L := [(0, .string a0), (1, .int .u8 a1)]) Try.func17 rfl Try.ntmps17 rfl rfl ?_
  refine k_seq ?_
  refine k_region ?_
  refine sv (v := .bool false) rfl rfl rfl (e_assign rfl) ?_
  refine k_nil ?_
  refine k_seq ?_
  refine k_seq ?_
  refine k_region ?_
  refine sv (v := .int .i64 0) rfl rfl rfl (e_assign rfl) ?_
  refine k_nil ?_
  obtain ⟨o1, H, G2⟩ := bindSome H
  refine k_cut (fun a w' => ∃ (s3 : Unit) (σ30 : Nat → Value), o1 = Sum.inl s3 ∧ a = st 17 [] σ30 [] ∧ Hp0 w w' []) ?_ ?_
  · refine k_block ?_
    refine k_loopg (fun m a w' => ∃ (x14 : Int) (σ25 : Nat → Value), a = st 17 [(0, .string a0), (1, .int .u8 a1), (5, .int .i64 x14)] σ25 [] ∧ Hp0 w w' [] ∧ selvageref15_has.l0 a0 a1 m x14 = some o1) k ⟨0, _, seenF ⟨rfl, rfl, rfl, trivial⟩, hp0, H⟩ ?_
    clear H
    rintro m a w' ⟨x14, σ18, rfl, hp16, H⟩
    obtain ⟨k, rfl⟩ := fuel (f := fun k => selvageref15_has.l0 a0 a1 k x14) rfl H
    rw [selvageref15_has.l0] at H
    refine k_seq ?_
    refine k_seq ?_
    refine k_region ?_
    refine sv (v := .int .i64 x14) rfl rfl rfl (e_move (tm rfl rfl)) ?_
    refine sv (v := .string a0) rfl rfl rfl (e_move (tm rfl rfl)) ?_
    refine sv (v := .int .i64 (a0.size : Int)) rfl rfl rfl (e_builtin (.cons (tm rfl rfl) .nil) (r_lenstr Try.runUnderlying9)) ?_
    refine sv (v := .bool (decide (x14 < (a0.size : Int)))) rfl rfl rfl (e_bin (tm rfl rfl) (tm rfl rfl) (r_lss rfl)) ?_
    refine k_nil ?_
    refine k_if (tm rfl rfl) (fun h19 => ?_) (fun h19 => ?_)
    · have H := ift h19 H
      refine k_skip ?_
      refine k_seq ?_
      refine k_block ?_
      refine k_seq ?_
      refine k_region ?_
      refine sv (v := .string a0) rfl rfl rfl (e_move (tm rfl rfl)) ?_
      refine sv (v := .int .i64 x14) rfl rfl rfl (e_move (tm rfl rfl)) ?_
      obtain ⟨g20, H⟩ := grd H
      refine sv (v := .int .u8 (sb a0 x14)) rfl rfl rfl (e_indexs (tm rfl rfl) (tm rfl rfl) Try.runUnderlying9 g20) ?_
      refine sv (v := .int .u8 a1) rfl rfl rfl (e_move (tm rfl rfl)) ?_
      refine sv (v := .bool (decide ((sb a0 x14) = a1))) rfl rfl rfl (e_bin (tm rfl rfl) (tm rfl rfl) (r_eql rfl)) ?_
      refine k_nil ?_
      refine k_if (tm rfl rfl) (fun h21 => ?_) (fun h21 => ?_)
      · have H := ift h21 H
        refine k_seq ?_
        refine k_region ?_
        refine sv (v := .bool true) rfl rfl rfl (e_assign rfl) ?_
        refine k_nil ?_
        refine k_ret ?_
        refine q_ret ?_
        refine q_ret ?_
        obtain rfl := Option.some.inj H
        have H := G2
        obtain rfl := Option.some.inj H
        exact k_end rfl (.tmp rfl rfl .nil) rfl ⟨rfl, hp16.below⟩
      have H := iff_ h21 H
      refine k_skip ?_
      refine k_region ?_
      refine sv (v := .int .i64 x14) rfl rfl rfl (e_move (tm rfl rfl)) ?_
      refine sv (v := .int .i64 (wrap64 (x14 + 1))) rfl rfl rfl (e_bin (tm rfl rfl) rfl (r_add (wrap_i64 _))) ?_
      refine sv (v := .int .i64 (wrap64 (x14 + 1))) rfl rfl rfl (e_assign (tm rfl rfl)) ?_
      refine k_nil ?_
      exact ⟨_, Nat.lt_succ_self _, ⟨wrap64 (x14 + 1), _, seenF ⟨rfl, rfl, rfl, trivial⟩, hp16, H⟩⟩
    have H := iff_ h19 H
    refine k_exit ?_
    refine q_here ?_
    obtain rfl := Option.some.inj H
    exact ⟨(), _, rfl, seenF trivial, hp16⟩
  clear H
  rintro a w' ⟨s3, σ25, rfl, rfl, hp23⟩
  have H := G2
  rw [Sum.elim_inl] at H
  refine k_seq ?_
  refine k_region ?_
  refine sv (v := .bool false) rfl rfl rfl (e_assign rfl) ?_
  refine k_nil ?_
  refine k_ret ?_
  obtain rfl := Option.some.inj H
  exact k_end rfl (.tmp rfl rfl .nil) rfl ⟨rfl, hp23.below⟩

end Go.Proofs.Ytallojficgiemaa.W

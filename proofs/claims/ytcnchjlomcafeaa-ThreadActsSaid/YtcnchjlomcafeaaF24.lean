/- Functions of the program as plain Lean functions, and that the calls do what they say: written by w2.py. -/
import Derived.Test.YtcnchjlomcafeaaDefer
import Derived.Test.YtcnchjlomcafeaaTy
set_option linter.unusedVariables false
set_option linter.unusedSimpArgs false
set_option linter.unusedSectionVars false
namespace Go.Proofs.Ytcnchjlomcafeaa.W
open Go Go.RowKit Go.Proofs.Ytcnchjlomcafeaa.B
attribute [local irreducible] Go.wpList Go.Code.wp Go.Region.wanted Go.yielded
/-! ### selvage/thread.Acts$1: function 27 -/
def thread_Acts_1.m (a0 : Int) (c0_ : List api_Event) : Option Bool :=
  if 0 ≤ a0 ∧ a0 < (c0_.length : Int) then ((if (((decide (((gi c0_ a0).Kind) = 2)) && (decide (((gi c0_ a0).Pair) ≥ 1))) && (decide (((gi c0_ a0).Pair) ≤ a0))) = true then (if 0 ≤ (wrap64 (((gi c0_ a0).Pair) - 1)) ∧ (wrap64 (((gi c0_ a0).Pair) - 1)) < (c0_.length : Int) then (some (decide (((gi c0_ (wrap64 (((gi c0_ a0).Pair) - 1))).Kind) = 1))) else none) else (some false) : Option Bool).bind fun o_16 => some o_16) else none
set_option maxHeartbeats 4000000 in
set_option maxRecDepth 100000 in
theorem thread_Acts_1.calls (a0 : Int) (c0_ : List api_Event) (b_1 : Nat) (A_2 : Option Addr) (c_3 : Nat) (r : Bool) (w : World) (F : Nat → Prop) (hF : ∀ k, F k → Off w [[(b_1, .cells #[.slice A_2 c0_.length c_3] 26 (0, 0))]] k) (hX : Have w [[(b_1, .cells #[.slice A_2 c0_.length c_3] 26 (0, 0))]]) (q_4 : RdS api_Event_E F w A_2 c_3 c0_) (H : thread_Acts_1.m a0 c0_ = some r) :
    Ret Try.prog 27 [.int .i64 a0, .pointer (some ⟨b_1, 0, none⟩)] w fun v w' => v = .bool r ∧ Aft w w' [[(b_1, .cells #[.slice A_2 c0_.length c_3] 26 (0, 0))]] [[(b_1, .cells #[.slice A_2 c0_.length c_3] 26 (0, 0))]] := by
  unfold thread_Acts_1.m at H
  have hp0 := Hp.startR hX hF
  have ep0 := Ep.refl F [[(b_1, .cells #[.slice A_2 c0_.length c_3] 26 (0, 0))]] w
  refine enter (L := [(0, .int .i64 a0), (1, .pointer (some ⟨b_1, 0, none⟩))]) Try.func27 rfl Try.ntmps27 rfl rfl ?_
  refine k_seq ?_
  refine k_region ?_
  refine sv (v := .bool false) rfl rfl rfl (e_assign rfl) ?_
  refine k_nil ?_
  refine k_seq ?_
  refine k_region ?_
  refine sv (v := .slice A_2 c0_.length c_3) rfl rfl rfl (e_load1 (tm rfl rfl) Try.isAgg26 (cell_atL (hp0.get (i := 0) (j := 0) rfl rfl) rfl)) ?_
  refine sv (v := .int .i64 a0) rfl rfl rfl (e_move (tm rfl rfl)) ?_
  obtain ⟨g_5, H⟩ := grd H
  obtain ⟨a_10, cs_7, pl_8, q_9, rp_6⟩ := rd_idx q_4 g_5
  obtain rfl : cs_7 = [.int .i64 ((gi c0_ a0).Kind), .int .i64 ((gi c0_ a0).Loc), .int .i64 ((gi c0_ a0).Val), .int .i64 ((gi c0_ a0).Pair), .int .u64 ((gi c0_ a0).Addr), .int .u64 ((gi c0_ a0).Data), .int .u64 ((gi c0_ a0).Ctrl), .int .u64 ((gi c0_ a0).Fenced)] := rp_6
  refine sv (v := .pointer (some a_10)) rfl rfl rfl (e_idx (tm rfl rfl) (tm rfl rfl) Try.runUnderlying26 Try.sizeOf33 pl_8 g_5) ?_
  refine sv (v := .agg #[.int .i64 ((gi c0_ a0).Kind), .int .i64 ((gi c0_ a0).Loc), .int .i64 ((gi c0_ a0).Val), .int .i64 ((gi c0_ a0).Pair), .int .u64 ((gi c0_ a0).Addr), .int .u64 ((gi c0_ a0).Data), .int .u64 ((gi c0_ a0).Ctrl), .int .u64 ((gi c0_ a0).Fenced)]) rfl rfl rfl (e_loadA (tm rfl rfl) Try.isAgg33 Try.sizeOf33 rfl ((hp0.ep q_9))) ?_
  refine s_alloc (zv := .agg #[.int .i64 0, .int .i64 0, .int .i64 0, .int .i64 0, .int .u64 0, .int .u64 0, .int .u64 0, .int .u64 0]) (l := [.int .i64 0, .int .i64 0, .int .i64 0, .int .i64 0, .int .u64 0, .int .u64 0, .int .u64 0, .int .u64 0]) hp0 (by intro w_; kernel_rfl) rfl rfl (fun b_11 w_12 hp_13 => ?_)
  refine s_store (i := 1) (j := 0) (vs := [.int .i64 ((gi c0_ a0).Kind), .int .i64 ((gi c0_ a0).Loc), .int .i64 ((gi c0_ a0).Val), .int .i64 ((gi c0_ a0).Pair), .int .u64 ((gi c0_ a0).Addr), .int .u64 ((gi c0_ a0).Data), .int .u64 ((gi c0_ a0).Ctrl), .int .u64 ((gi c0_ a0).Fenced)]) (l' := [.int .i64 ((gi c0_ a0).Kind), .int .i64 ((gi c0_ a0).Loc), .int .i64 ((gi c0_ a0).Val), .int .i64 ((gi c0_ a0).Pair), .int .u64 ((gi c0_ a0).Addr), .int .u64 ((gi c0_ a0).Data), .int .u64 ((gi c0_ a0).Ctrl), .int .u64 ((gi c0_ a0).Fenced)]) hp_13 (tm rfl rfl) (tm rfl rfl) rfl Try.sizeOf33 rfl rfl rfl rfl rfl rfl (fun w_14 hp_15 => ?_)
  refine k_nil ?_
  refine k_seq ?_
  obtain ⟨o_16, H, G_17⟩ := bindSome H
  refine k_cut (fun a w' => ∃ (σ_36 : Nat → Value), a = st 33 [(3, .bool o_16)] σ_36 [] ∧ Hp (On [[(b_1, .cells #[.slice A_2 c0_.length c_3] 26 (0, 0))]]) F w w w' [[(b_1, .cells #[.slice A_2 c0_.length c_3] 26 (0, 0))]]) ?_ ?_
  · as_aux_lemma =>
      refine k_region ?_
      refine sv (v := .pointer (some ⟨b_11, 0, none⟩)) rfl rfl rfl (e_fieldAddr (tm rfl rfl) Try.runUnderlying33 rfl Try.sizeOf3 rfl rfl) ?_
      refine sv (v := .int .i64 ((gi c0_ a0).Kind)) rfl rfl rfl (e_load1 (tm rfl rfl) Try.isAgg3 (cell_atL (hp_15.get (i := 1) (j := 0) rfl rfl) rfl)) ?_
      refine sv (v := .bool (decide (((gi c0_ a0).Kind) = 2))) rfl rfl rfl (e_bin (tm rfl rfl) rfl (r_eql rfl)) ?_
      refine sv (v := .bool (decide (((gi c0_ a0).Kind) = 2))) rfl rfl rfl (e_move (tm rfl rfl)) ?_
      refine s_gp (v := .pointer (some ⟨b_11, 3, none⟩)) rfl rfl rfl (beq_t _) (fun g_ => e_fieldAddr (tm rfl rfl) Try.runUnderlying33 rfl Try.sizeOf3 rfl rfl) rfl ?_
      refine s_gp (v := .int .i64 ((gi c0_ a0).Pair)) rfl rfl rfl (beq_t _) (fun g_ => e_load1 (tmg (decide (((gi c0_ a0).Kind) = 2)) (.pointer (some ⟨b_11, 3, none⟩)) rfl rfl g_) Try.isAgg3 (cell_atL (hp_15.get (i := 1) (j := 0) rfl rfl) rfl)) rfl ?_
      refine s_gp (v := .bool (decide (((gi c0_ a0).Pair) ≥ 1))) rfl rfl rfl (beq_t _) (fun g_ => e_bin (tmg (decide (((gi c0_ a0).Kind) = 2)) (.int .i64 ((gi c0_ a0).Pair)) rfl rfl g_) rfl (r_geq rfl)) rfl ?_
      refine sv (v := .bool ((decide (((gi c0_ a0).Kind) = 2)) && (decide (((gi c0_ a0).Pair) ≥ 1)))) rfl rfl rfl (e_pick (v1 := .bool (decide (((gi c0_ a0).Pair) ≥ 1))) (v2 := .bool false) (tm rfl rfl) (fun h_ => tmg (decide (((gi c0_ a0).Kind) = 2)) (.bool (decide (((gi c0_ a0).Pair) ≥ 1))) rfl rfl h_) (fun _ => rfl) (pk_and (decide (((gi c0_ a0).Kind) = 2)))) ?_
      refine sv (v := .bool ((decide (((gi c0_ a0).Kind) = 2)) && (decide (((gi c0_ a0).Pair) ≥ 1)))) rfl rfl rfl (e_move (tm rfl rfl)) ?_
      refine s_gp (v := .pointer (some ⟨b_11, 3, none⟩)) rfl rfl rfl (beq_t _) (fun g_ => e_fieldAddr (tm rfl rfl) Try.runUnderlying33 rfl Try.sizeOf3 rfl rfl) rfl ?_
      refine s_gp (v := .int .i64 ((gi c0_ a0).Pair)) rfl rfl rfl (beq_t _) (fun g_ => e_load1 (tmg ((decide (((gi c0_ a0).Kind) = 2)) && (decide (((gi c0_ a0).Pair) ≥ 1))) (.pointer (some ⟨b_11, 3, none⟩)) rfl rfl g_) Try.isAgg3 (cell_atL (hp_15.get (i := 1) (j := 0) rfl rfl) rfl)) rfl ?_
      refine s_gp (v := .int .i64 a0) rfl rfl rfl (beq_t _) (fun g_ => e_move (tm rfl rfl)) rfl ?_
      refine s_gp (v := .bool (decide (((gi c0_ a0).Pair) ≤ a0))) rfl rfl rfl (beq_t _) (fun g_ => e_bin (tmg ((decide (((gi c0_ a0).Kind) = 2)) && (decide (((gi c0_ a0).Pair) ≥ 1))) (.int .i64 ((gi c0_ a0).Pair)) rfl rfl g_) (tmg ((decide (((gi c0_ a0).Kind) = 2)) && (decide (((gi c0_ a0).Pair) ≥ 1))) (.int .i64 a0) rfl rfl g_) (r_leq rfl)) rfl ?_
      refine sv (v := .bool (((decide (((gi c0_ a0).Kind) = 2)) && (decide (((gi c0_ a0).Pair) ≥ 1))) && (decide (((gi c0_ a0).Pair) ≤ a0)))) rfl rfl rfl (e_pick (v1 := .bool (decide (((gi c0_ a0).Pair) ≤ a0))) (v2 := .bool false) (tm rfl rfl) (fun h_ => tmg ((decide (((gi c0_ a0).Kind) = 2)) && (decide (((gi c0_ a0).Pair) ≥ 1))) (.bool (decide (((gi c0_ a0).Pair) ≤ a0))) rfl rfl h_) (fun _ => rfl) (pk_and ((decide (((gi c0_ a0).Kind) = 2)) && (decide (((gi c0_ a0).Pair) ≥ 1))))) ?_
      refine sv (v := .bool (((decide (((gi c0_ a0).Kind) = 2)) && (decide (((gi c0_ a0).Pair) ≥ 1))) && (decide (((gi c0_ a0).Pair) ≤ a0)))) rfl rfl rfl (e_move (tm rfl rfl)) ?_
      refine s_gp (v := .slice A_2 c0_.length c_3) rfl rfl rfl (beq_t _) (fun g_ => e_load1 (tm rfl rfl) Try.isAgg26 (cell_atL (hp_15.get (i := 0) (j := 0) rfl rfl) rfl)) rfl ?_
      refine s_gp (v := .pointer (some ⟨b_11, 3, none⟩)) rfl rfl rfl (beq_t _) (fun g_ => e_fieldAddr (tm rfl rfl) Try.runUnderlying33 rfl Try.sizeOf3 rfl rfl) rfl ?_
      refine s_gp (v := .int .i64 ((gi c0_ a0).Pair)) rfl rfl rfl (beq_t _) (fun g_ => e_load1 (tmg (((decide (((gi c0_ a0).Kind) = 2)) && (decide (((gi c0_ a0).Pair) ≥ 1))) && (decide (((gi c0_ a0).Pair) ≤ a0))) (.pointer (some ⟨b_11, 3, none⟩)) rfl rfl g_) Try.isAgg3 (cell_atL (hp_15.get (i := 1) (j := 0) rfl rfl) rfl)) rfl ?_
      refine s_gp (v := .int .i64 (wrap64 (((gi c0_ a0).Pair) - 1))) rfl rfl rfl (beq_t _) (fun g_ => e_bin (tmg (((decide (((gi c0_ a0).Kind) = 2)) && (decide (((gi c0_ a0).Pair) ≥ 1))) && (decide (((gi c0_ a0).Pair) ≤ a0))) (.int .i64 ((gi c0_ a0).Pair)) rfl rfl g_) rfl (r_sub (wrap_i64 _))) rfl ?_
      rcases Bool.eq_false_or_eq_true (((decide (((gi c0_ a0).Kind) = 2)) && (decide (((gi c0_ a0).Pair) ≥ 1))) && (decide (((gi c0_ a0).Pair) ≤ a0))) with h_24 | h_24
      · have H := ift h_24 H
        refine gon rfl rfl (congrArg Value.bool h_24) ?_
        obtain ⟨g_25, H⟩ := grd H
        obtain ⟨a_30, cs_27, pl_28, q_29, rp_26⟩ := rd_idx q_4 g_25
        obtain rfl : cs_27 = [.int .i64 ((gi c0_ (wrap64 (((gi c0_ a0).Pair) - 1))).Kind), .int .i64 ((gi c0_ (wrap64 (((gi c0_ a0).Pair) - 1))).Loc), .int .i64 ((gi c0_ (wrap64 (((gi c0_ a0).Pair) - 1))).Val), .int .i64 ((gi c0_ (wrap64 (((gi c0_ a0).Pair) - 1))).Pair), .int .u64 ((gi c0_ (wrap64 (((gi c0_ a0).Pair) - 1))).Addr), .int .u64 ((gi c0_ (wrap64 (((gi c0_ a0).Pair) - 1))).Data), .int .u64 ((gi c0_ (wrap64 (((gi c0_ a0).Pair) - 1))).Ctrl), .int .u64 ((gi c0_ (wrap64 (((gi c0_ a0).Pair) - 1))).Fenced)] := rp_26
        refine sv (v := .pointer (some a_30)) rfl rfl rfl (e_idx (tmg (((decide (((gi c0_ a0).Kind) = 2)) && (decide (((gi c0_ a0).Pair) ≥ 1))) && (decide (((gi c0_ a0).Pair) ≤ a0))) (.slice A_2 c0_.length c_3) rfl rfl h_24) (tmg (((decide (((gi c0_ a0).Kind) = 2)) && (decide (((gi c0_ a0).Pair) ≥ 1))) && (decide (((gi c0_ a0).Pair) ≤ a0))) (.int .i64 (wrap64 (((gi c0_ a0).Pair) - 1))) rfl rfl h_24) Try.runUnderlying26 Try.sizeOf33 pl_28 g_25) ?_
        refine gon rfl rfl (congrArg Value.bool h_24) ?_
        refine sv (v := .pointer (some a_30)) rfl rfl rfl (e_fieldAddr (tm rfl rfl) Try.runUnderlying33 rfl Try.sizeOf3 rfl rfl) ?_
        refine gon rfl rfl (congrArg Value.bool h_24) ?_
        refine sv (v := .int .i64 ((gi c0_ (wrap64 (((gi c0_ a0).Pair) - 1))).Kind)) rfl rfl rfl (e_load1 (tm rfl rfl) Try.isAgg3 (cells_zero (hp_15.ep q_29) rfl)) ?_
        refine gon rfl rfl (congrArg Value.bool h_24) ?_
        refine sv (v := .bool (decide (((gi c0_ (wrap64 (((gi c0_ a0).Pair) - 1))).Kind) = 1))) rfl rfl rfl (e_bin (tm rfl rfl) rfl (r_eql rfl)) ?_
        refine sv (v := .bool (decide (((gi c0_ (wrap64 (((gi c0_ a0).Pair) - 1))).Kind) = 1))) rfl rfl rfl (e_pick (b := (((decide (((gi c0_ a0).Kind) = 2)) && (decide (((gi c0_ a0).Pair) ≥ 1))) && (decide (((gi c0_ a0).Pair) ≤ a0)))) (v1 := .bool (decide (((gi c0_ (wrap64 (((gi c0_ a0).Pair) - 1))).Kind) = 1))) (v2 := .bool (decide (((gi c0_ (wrap64 (((gi c0_ a0).Pair) - 1))).Kind) = 1))) (tm rfl rfl) (fun _ => (tm rfl rfl)) (fun h_ => pk_no h_ h_24) (pk_same _ _)) ?_
        refine sv (v := .bool (decide (((gi c0_ (wrap64 (((gi c0_ a0).Pair) - 1))).Kind) = 1))) rfl rfl rfl (e_assign (tm rfl rfl)) ?_
        refine k_nil ?_
        obtain rfl := Option.some.inj H
        exact ⟨_, seenF ⟨rfl, trivial⟩, hp_15.pick [0] (by decide) rfl⟩
      have H := iff_ h_24 H
      refine goff rfl rfl (congrArg Value.bool h_24) rfl ?_
      refine goff rfl rfl (congrArg Value.bool h_24) rfl ?_
      refine goff rfl rfl (congrArg Value.bool h_24) rfl ?_
      refine goff rfl rfl (congrArg Value.bool h_24) rfl ?_
      refine sv (v := .bool false) rfl rfl rfl (e_pick (b := (((decide (((gi c0_ a0).Kind) = 2)) && (decide (((gi c0_ a0).Pair) ≥ 1))) && (decide (((gi c0_ a0).Pair) ≤ a0)))) (v1 := .bool false) (v2 := .bool false) (tm rfl rfl) (fun h_ => pk_no h_24 h_) (fun _ => rfl) (pk_same _ _)) ?_
      refine sv (v := .bool false) rfl rfl rfl (e_assign (tm rfl rfl)) ?_
      refine k_nil ?_
      obtain rfl := Option.some.inj H
      exact ⟨_, seenF ⟨rfl, trivial⟩, hp_15.pick [0] (by decide) rfl⟩
  clear H
  rintro a w' ⟨σ_31, rfl, hp_32⟩
  have H := G_17
  refine k_ret ?_
  obtain rfl := Option.some.inj H
  exact k_end rfl (.tmp rfl rfl .nil) rfl ⟨rfl, (hp_32).aft⟩

end Go.Proofs.Ytcnchjlomcafeaa.W

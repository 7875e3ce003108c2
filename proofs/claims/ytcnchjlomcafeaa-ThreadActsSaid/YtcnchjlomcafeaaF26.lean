/- Functions of the program as plain Lean functions, and that the calls do what they say: written by w2.py. -/
import Derived.Test.YtcnchjlomcafeaaDefer
import Derived.Test.YtcnchjlomcafeaaTy
set_option linter.unusedVariables false
set_option linter.unusedSimpArgs false
set_option linter.unusedSectionVars false
namespace Go.Proofs.Ytcnchjlomcafeaa.W
open Go Go.RowKit Go.Proofs.Ytcnchjlomcafeaa.B
attribute [local irreducible] Go.wpList Go.Code.wp Go.Region.wanted Go.yielded
/-! ### selvage/selvageref16.paired: function 28 -/
def selvageref16_paired.m (a0 : List api_Event) (a1 : Int) : Option Bool :=
  (if 0 ≤ a1 ∧ a1 < (a0.length : Int) then (if (decide (((gi a0 a1).Kind) = 2)) = true then (if (decide (((gi a0 a1).Pair) > 0)) = true then (if (decide ((wrap64 (((gi a0 a1).Pair) - 1)) < a1)) = true then (if 0 ≤ (wrap64 (((gi a0 a1).Pair) - 1)) ∧ (wrap64 (((gi a0 a1).Pair) - 1)) < (a0.length : Int) then (some (decide (((gi a0 (wrap64 (((gi a0 a1).Pair) - 1))).Kind) = 1))) else none) else (some false)) else (some false)) else (some false)) else none : Option Bool).bind fun o_4 => some o_4
set_option maxHeartbeats 4000000 in
set_option maxRecDepth 100000 in
theorem selvageref16_paired.calls (a0 : List api_Event) (A_1 : Option Addr) (c_2 : Nat) (a1 : Int) (r : Bool) (w : World) (F : Nat → Prop) (hF : ∀ k, F k → Off w [] k) (q_3 : RdS api_Event_E F w A_1 c_2 a0) (H : selvageref16_paired.m a0 a1 = some r) :
    Ret Try.prog 28 [.slice A_1 a0.length c_2, .int .i64 a1] w fun v w' => v = .bool r ∧ Aft w w' [] [] := by
  unfold selvageref16_paired.m at H
  have hp0 := Hp.startR (R := []) (Have.nil w) hF
  have ep0 := Ep.refl F [] w
  refine enter (L := [(0, .slice A_1 a0.length c_2), (1, .int .i64 a1)]) Try.func28 rfl Try.ntmps28 rfl rfl ?_
  refine k_seq ?_
  refine k_region ?_
  refine sv (v := .bool false) rfl rfl rfl (e_assign rfl) ?_
  refine k_nil ?_
  refine k_seq ?_
  obtain ⟨o_4, H, G_5⟩ := bindSome H
  refine k_cut (fun a w' => ∃ (σ_56 : Nat → Value), a = st 42 [(4, .bool o_4)] σ_56 [] ∧ Hp (On []) F w w w' []) ?_ ?_
  · as_aux_lemma =>
      refine k_region ?_
      refine sv (v := .slice A_1 a0.length c_2) rfl rfl rfl (e_move (tm rfl rfl)) ?_
      refine sv (v := .int .i64 a1) rfl rfl rfl (e_move (tm rfl rfl)) ?_
      obtain ⟨g_6, H⟩ := grd H
      obtain ⟨a_11, cs_8, pl_9, q_10, rp_7⟩ := rd_idx q_3 g_6
      obtain rfl : cs_8 = [.int .i64 ((gi a0 a1).Kind), .int .i64 ((gi a0 a1).Loc), .int .i64 ((gi a0 a1).Val), .int .i64 ((gi a0 a1).Pair), .int .u64 ((gi a0 a1).Addr), .int .u64 ((gi a0 a1).Data), .int .u64 ((gi a0 a1).Ctrl), .int .u64 ((gi a0 a1).Fenced)] := rp_7
      refine sv (v := .pointer (some a_11)) rfl rfl rfl (e_idx (tm rfl rfl) (tm rfl rfl) Try.runUnderlying26 Try.sizeOf33 pl_9 g_6) ?_
      refine sv (v := .pointer (some a_11)) rfl rfl rfl (e_fieldAddr (tm rfl rfl) Try.runUnderlying33 rfl Try.sizeOf3 rfl rfl) ?_
      refine sv (v := .int .i64 ((gi a0 a1).Kind)) rfl rfl rfl (e_load1 (tm rfl rfl) Try.isAgg3 (cells_zero (hp0.ep q_10) rfl)) ?_
      refine sv (v := .bool (decide (((gi a0 a1).Kind) = 2))) rfl rfl rfl (e_bin (tm rfl rfl) rfl (r_eql rfl)) ?_
      refine sv (v := .bool (decide (((gi a0 a1).Kind) = 2))) rfl rfl rfl (e_move (tm rfl rfl)) ?_
      refine s_gp (v := .slice A_1 a0.length c_2) rfl rfl rfl (beq_t _) (fun g_ => e_move (tm rfl rfl)) rfl ?_
      refine s_gp (v := .int .i64 a1) rfl rfl rfl (beq_t _) (fun g_ => e_move (tm rfl rfl)) rfl ?_
      rcases Bool.eq_false_or_eq_true (decide (((gi a0 a1).Kind) = 2)) with h_17 | h_17
      · have H := ift h_17 H
        refine gon rfl rfl (congrArg Value.bool h_17) ?_
        obtain ⟨a_22, cs_19, pl_20, q_21, rp_18⟩ := rd_idx q_3 g_6
        obtain rfl : cs_19 = [.int .i64 ((gi a0 a1).Kind), .int .i64 ((gi a0 a1).Loc), .int .i64 ((gi a0 a1).Val), .int .i64 ((gi a0 a1).Pair), .int .u64 ((gi a0 a1).Addr), .int .u64 ((gi a0 a1).Data), .int .u64 ((gi a0 a1).Ctrl), .int .u64 ((gi a0 a1).Fenced)] := rp_18
        refine sv (v := .pointer (some a_22)) rfl rfl rfl (e_idx (tmg (decide (((gi a0 a1).Kind) = 2)) (.slice A_1 a0.length c_2) rfl rfl h_17) (tmg (decide (((gi a0 a1).Kind) = 2)) (.int .i64 a1) rfl rfl h_17) Try.runUnderlying26 Try.sizeOf33 pl_20 g_6) ?_
        refine gon rfl rfl (congrArg Value.bool h_17) ?_
        refine sv (v := .pointer (some (a_22.add 3))) rfl rfl rfl (e_fieldAddr (tm rfl rfl) Try.runUnderlying33 rfl Try.sizeOf3 rfl rfl) ?_
        refine gon rfl rfl (congrArg Value.bool h_17) ?_
        refine sv (v := .int .i64 ((gi a0 a1).Pair)) rfl rfl rfl (e_load1 (tm rfl rfl) Try.isAgg3 (cells_one (hp0.ep q_21) rfl)) ?_
        refine gon rfl rfl (congrArg Value.bool h_17) ?_
        refine sv (v := .bool (decide (((gi a0 a1).Pair) > 0))) rfl rfl rfl (e_bin (tm rfl rfl) rfl (r_gtr rfl)) ?_
        refine sv (v := .bool (decide (((gi a0 a1).Pair) > 0))) rfl rfl rfl (e_pick (b := decide (((gi a0 a1).Kind) = 2)) (v1 := .bool (decide (((gi a0 a1).Pair) > 0))) (v2 := .bool (decide (((gi a0 a1).Pair) > 0))) (tm rfl rfl) (fun _ => (tm rfl rfl)) (fun h_ => pk_no h_ h_17) (pk_same _ _)) ?_
        refine sv (v := .bool (decide (((gi a0 a1).Pair) > 0))) rfl rfl rfl (e_move (tm rfl rfl)) ?_
        refine s_gp (v := .slice A_1 a0.length c_2) rfl rfl rfl (beq_t _) (fun g_ => e_move (tm rfl rfl)) rfl ?_
        refine s_gp (v := .int .i64 a1) rfl rfl rfl (beq_t _) (fun g_ => e_move (tm rfl rfl)) rfl ?_
        rcases Bool.eq_false_or_eq_true (decide (((gi a0 a1).Pair) > 0)) with h_28 | h_28
        · have H := ift h_28 H
          refine gon rfl rfl (congrArg Value.bool h_28) ?_
          obtain ⟨a_33, cs_30, pl_31, q_32, rp_29⟩ := rd_idx q_3 g_6
          obtain rfl : cs_30 = [.int .i64 ((gi a0 a1).Kind), .int .i64 ((gi a0 a1).Loc), .int .i64 ((gi a0 a1).Val), .int .i64 ((gi a0 a1).Pair), .int .u64 ((gi a0 a1).Addr), .int .u64 ((gi a0 a1).Data), .int .u64 ((gi a0 a1).Ctrl), .int .u64 ((gi a0 a1).Fenced)] := rp_29
          refine sv (v := .pointer (some a_33)) rfl rfl rfl (e_idx (tmg (decide (((gi a0 a1).Pair) > 0)) (.slice A_1 a0.length c_2) rfl rfl h_28) (tmg (decide (((gi a0 a1).Pair) > 0)) (.int .i64 a1) rfl rfl h_28) Try.runUnderlying26 Try.sizeOf33 pl_31 g_6) ?_
          refine gon rfl rfl (congrArg Value.bool h_28) ?_
          refine sv (v := .pointer (some (a_33.add 3))) rfl rfl rfl (e_fieldAddr (tm rfl rfl) Try.runUnderlying33 rfl Try.sizeOf3 rfl rfl) ?_
          refine gon rfl rfl (congrArg Value.bool h_28) ?_
          refine sv (v := .int .i64 ((gi a0 a1).Pair)) rfl rfl rfl (e_load1 (tm rfl rfl) Try.isAgg3 (cells_one (hp0.ep q_32) rfl)) ?_
          refine gon rfl rfl (congrArg Value.bool h_28) ?_
          refine sv (v := .int .i64 (wrap64 (((gi a0 a1).Pair) - 1))) rfl rfl rfl (e_bin (tm rfl rfl) rfl (r_sub (wrap_i64 _))) ?_
          refine gon rfl rfl (congrArg Value.bool h_28) ?_
          refine sv (v := .int .i64 a1) rfl rfl rfl (e_move (tm rfl rfl)) ?_
          refine gon rfl rfl (congrArg Value.bool h_28) ?_
          refine sv (v := .bool (decide ((wrap64 (((gi a0 a1).Pair) - 1)) < a1))) rfl rfl rfl (e_bin (tm rfl rfl) (tm rfl rfl) (r_lss rfl)) ?_
          refine sv (v := .bool (decide ((wrap64 (((gi a0 a1).Pair) - 1)) < a1))) rfl rfl rfl (e_pick (b := decide (((gi a0 a1).Pair) > 0)) (v1 := .bool (decide ((wrap64 (((gi a0 a1).Pair) - 1)) < a1))) (v2 := .bool (decide ((wrap64 (((gi a0 a1).Pair) - 1)) < a1))) (tm rfl rfl) (fun _ => (tm rfl rfl)) (fun h_ => pk_no h_ h_28) (pk_same _ _)) ?_
          refine sv (v := .bool (decide ((wrap64 (((gi a0 a1).Pair) - 1)) < a1))) rfl rfl rfl (e_move (tm rfl rfl)) ?_
          refine s_gp (v := .slice A_1 a0.length c_2) rfl rfl rfl (beq_t _) (fun g_ => e_move (tm rfl rfl)) rfl ?_
          refine s_gp (v := .slice A_1 a0.length c_2) rfl rfl rfl (beq_t _) (fun g_ => e_move (tm rfl rfl)) rfl ?_
          refine s_gp (v := .int .i64 a1) rfl rfl rfl (beq_t _) (fun g_ => e_move (tm rfl rfl)) rfl ?_
          rcases Bool.eq_false_or_eq_true (decide ((wrap64 (((gi a0 a1).Pair) - 1)) < a1)) with h_39 | h_39
          · have H := ift h_39 H
            refine gon rfl rfl (congrArg Value.bool h_39) ?_
            obtain ⟨a_44, cs_41, pl_42, q_43, rp_40⟩ := rd_idx q_3 g_6
            obtain rfl : cs_41 = [.int .i64 ((gi a0 a1).Kind), .int .i64 ((gi a0 a1).Loc), .int .i64 ((gi a0 a1).Val), .int .i64 ((gi a0 a1).Pair), .int .u64 ((gi a0 a1).Addr), .int .u64 ((gi a0 a1).Data), .int .u64 ((gi a0 a1).Ctrl), .int .u64 ((gi a0 a1).Fenced)] := rp_40
            refine sv (v := .pointer (some a_44)) rfl rfl rfl (e_idx (tmg (decide ((wrap64 (((gi a0 a1).Pair) - 1)) < a1)) (.slice A_1 a0.length c_2) rfl rfl h_39) (tmg (decide ((wrap64 (((gi a0 a1).Pair) - 1)) < a1)) (.int .i64 a1) rfl rfl h_39) Try.runUnderlying26 Try.sizeOf33 pl_42 g_6) ?_
            refine gon rfl rfl (congrArg Value.bool h_39) ?_
            refine sv (v := .pointer (some (a_44.add 3))) rfl rfl rfl (e_fieldAddr (tm rfl rfl) Try.runUnderlying33 rfl Try.sizeOf3 rfl rfl) ?_
            refine gon rfl rfl (congrArg Value.bool h_39) ?_
            refine sv (v := .int .i64 ((gi a0 a1).Pair)) rfl rfl rfl (e_load1 (tm rfl rfl) Try.isAgg3 (cells_one (hp0.ep q_43) rfl)) ?_
            refine gon rfl rfl (congrArg Value.bool h_39) ?_
            refine sv (v := .int .i64 (wrap64 (((gi a0 a1).Pair) - 1))) rfl rfl rfl (e_bin (tm rfl rfl) rfl (r_sub (wrap_i64 _))) ?_
            refine gon rfl rfl (congrArg Value.bool h_39) ?_
            obtain ⟨g_45, H⟩ := grd H
            obtain ⟨a_50, cs_47, pl_48, q_49, rp_46⟩ := rd_idx q_3 g_45
            obtain rfl : cs_47 = [.int .i64 ((gi a0 (wrap64 (((gi a0 a1).Pair) - 1))).Kind), .int .i64 ((gi a0 (wrap64 (((gi a0 a1).Pair) - 1))).Loc), .int .i64 ((gi a0 (wrap64 (((gi a0 a1).Pair) - 1))).Val), .int .i64 ((gi a0 (wrap64 (((gi a0 a1).Pair) - 1))).Pair), .int .u64 ((gi a0 (wrap64 (((gi a0 a1).Pair) - 1))).Addr), .int .u64 ((gi a0 (wrap64 (((gi a0 a1).Pair) - 1))).Data), .int .u64 ((gi a0 (wrap64 (((gi a0 a1).Pair) - 1))).Ctrl), .int .u64 ((gi a0 (wrap64 (((gi a0 a1).Pair) - 1))).Fenced)] := rp_46
            refine sv (v := .pointer (some a_50)) rfl rfl rfl (e_idx (tmg (decide ((wrap64 (((gi a0 a1).Pair) - 1)) < a1)) (.slice A_1 a0.length c_2) rfl rfl h_39) (tm rfl rfl) Try.runUnderlying26 Try.sizeOf33 pl_48 g_45) ?_
            refine gon rfl rfl (congrArg Value.bool h_39) ?_
            refine sv (v := .pointer (some a_50)) rfl rfl rfl (e_fieldAddr (tm rfl rfl) Try.runUnderlying33 rfl Try.sizeOf3 rfl rfl) ?_
            refine gon rfl rfl (congrArg Value.bool h_39) ?_
            refine sv (v := .int .i64 ((gi a0 (wrap64 (((gi a0 a1).Pair) - 1))).Kind)) rfl rfl rfl (e_load1 (tm rfl rfl) Try.isAgg3 (cells_zero (hp0.ep q_49) rfl)) ?_
            refine gon rfl rfl (congrArg Value.bool h_39) ?_
            refine sv (v := .bool (decide (((gi a0 (wrap64 (((gi a0 a1).Pair) - 1))).Kind) = 1))) rfl rfl rfl (e_bin (tm rfl rfl) rfl (r_eql rfl)) ?_
            refine sv (v := .bool (decide (((gi a0 (wrap64 (((gi a0 a1).Pair) - 1))).Kind) = 1))) rfl rfl rfl (e_pick (b := decide ((wrap64 (((gi a0 a1).Pair) - 1)) < a1)) (v1 := .bool (decide (((gi a0 (wrap64 (((gi a0 a1).Pair) - 1))).Kind) = 1))) (v2 := .bool (decide (((gi a0 (wrap64 (((gi a0 a1).Pair) - 1))).Kind) = 1))) (tm rfl rfl) (fun _ => (tm rfl rfl)) (fun h_ => pk_no h_ h_39) (pk_same _ _)) ?_
            refine sv (v := .bool (decide (((gi a0 (wrap64 (((gi a0 a1).Pair) - 1))).Kind) = 1))) rfl rfl rfl (e_assign (tm rfl rfl)) ?_
            refine k_nil ?_
            obtain rfl := Option.some.inj H
            exact ⟨_, seenF ⟨rfl, trivial⟩, hp0⟩
          have H := iff_ h_39 H
          refine goff rfl rfl (congrArg Value.bool h_39) rfl ?_
          refine goff rfl rfl (congrArg Value.bool h_39) rfl ?_
          refine goff rfl rfl (congrArg Value.bool h_39) rfl ?_
          refine goff rfl rfl (congrArg Value.bool h_39) rfl ?_
          refine goff rfl rfl (congrArg Value.bool h_39) rfl ?_
          refine goff rfl rfl (congrArg Value.bool h_39) rfl ?_
          refine goff rfl rfl (congrArg Value.bool h_39) rfl ?_
          refine goff rfl rfl (congrArg Value.bool h_39) rfl ?_
          refine sv (v := .bool false) rfl rfl rfl (e_pick (b := decide ((wrap64 (((gi a0 a1).Pair) - 1)) < a1)) (v1 := .bool false) (v2 := .bool false) (tm rfl rfl) (fun h_ => pk_no h_39 h_) (fun _ => rfl) (pk_same _ _)) ?_
          refine sv (v := .bool false) rfl rfl rfl (e_assign (tm rfl rfl)) ?_
          refine k_nil ?_
          obtain rfl := Option.some.inj H
          exact ⟨_, seenF ⟨rfl, trivial⟩, hp0⟩
        have H := iff_ h_28 H
        refine goff rfl rfl (congrArg Value.bool h_28) rfl ?_
        refine goff rfl rfl (congrArg Value.bool h_28) rfl ?_
        refine goff rfl rfl (congrArg Value.bool h_28) rfl ?_
        refine goff rfl rfl (congrArg Value.bool h_28) rfl ?_
        refine goff rfl rfl (congrArg Value.bool h_28) rfl ?_
        refine goff rfl rfl (congrArg Value.bool h_28) rfl ?_
        refine sv (v := .bool false) rfl rfl rfl (e_pick (b := decide (((gi a0 a1).Pair) > 0)) (v1 := .bool false) (v2 := .bool false) (tm rfl rfl) (fun h_ => pk_no h_28 h_) (fun _ => rfl) (pk_same _ _)) ?_
        refine sv (v := .bool false) rfl rfl rfl (e_move (tm rfl rfl)) ?_
        refine goff rfl rfl rfl rfl ?_
        refine goff rfl rfl rfl rfl ?_
        refine goff rfl rfl rfl rfl ?_
        refine goff rfl rfl rfl rfl ?_
        refine goff rfl rfl rfl rfl ?_
        refine goff rfl rfl rfl rfl ?_
        refine goff rfl rfl rfl rfl ?_
        refine goff rfl rfl rfl rfl ?_
        refine goff rfl rfl rfl rfl ?_
        refine goff rfl rfl rfl rfl ?_
        refine goff rfl rfl rfl rfl ?_
        refine sv (v := .bool false) rfl rfl rfl (e_pick (v1 := .bool false) (v2 := .bool false) (tm rfl rfl) (fun h_ => by cases h_) (fun _ => rfl) rfl) ?_
        refine sv (v := .bool false) rfl rfl rfl (e_assign (tm rfl rfl)) ?_
        refine k_nil ?_
        obtain rfl := Option.some.inj H
        exact ⟨_, seenF ⟨rfl, trivial⟩, hp0⟩
      have H := iff_ h_17 H
      refine goff rfl rfl (congrArg Value.bool h_17) rfl ?_
      refine goff rfl rfl (congrArg Value.bool h_17) rfl ?_
      refine goff rfl rfl (congrArg Value.bool h_17) rfl ?_
      refine goff rfl rfl (congrArg Value.bool h_17) rfl ?_
      refine sv (v := .bool false) rfl rfl rfl (e_pick (b := decide (((gi a0 a1).Kind) = 2)) (v1 := .bool false) (v2 := .bool false) (tm rfl rfl) (fun h_ => pk_no h_17 h_) (fun _ => rfl) (pk_same _ _)) ?_
      refine sv (v := .bool false) rfl rfl rfl (e_move (tm rfl rfl)) ?_
      refine goff rfl rfl rfl rfl ?_
      refine goff rfl rfl rfl rfl ?_
      refine goff rfl rfl rfl rfl ?_
      refine goff rfl rfl rfl rfl ?_
      refine goff rfl rfl rfl rfl ?_
      refine goff rfl rfl rfl rfl ?_
      refine goff rfl rfl rfl rfl ?_
      refine goff rfl rfl rfl rfl ?_
      refine sv (v := .bool false) rfl rfl rfl (e_pick (v1 := .bool false) (v2 := .bool false) (tm rfl rfl) (fun h_ => by cases h_) (fun _ => rfl) rfl) ?_
      refine sv (v := .bool false) rfl rfl rfl (e_move (tm rfl rfl)) ?_
      refine goff rfl rfl rfl rfl ?_
      refine goff rfl rfl rfl rfl ?_
      refine goff rfl rfl rfl rfl ?_
      refine goff rfl rfl rfl rfl ?_
      refine goff rfl rfl rfl rfl ?_
      refine goff rfl rfl rfl rfl ?_
      refine goff rfl rfl rfl rfl ?_
      refine goff rfl rfl rfl rfl ?_
      refine goff rfl rfl rfl rfl ?_
      refine goff rfl rfl rfl rfl ?_
      refine goff rfl rfl rfl rfl ?_
      refine sv (v := .bool false) rfl rfl rfl (e_pick (v1 := .bool false) (v2 := .bool false) (tm rfl rfl) (fun h_ => by cases h_) (fun _ => rfl) rfl) ?_
      refine sv (v := .bool false) rfl rfl rfl (e_assign (tm rfl rfl)) ?_
      refine k_nil ?_
      obtain rfl := Option.some.inj H
      exact ⟨_, seenF ⟨rfl, trivial⟩, hp0⟩
  clear H
  rintro a w' ⟨σ_51, rfl, hp_52⟩
  have H := G_5
  refine k_ret ?_
  obtain rfl := Option.some.inj H
  exact k_end rfl (.tmp rfl rfl .nil) rfl ⟨rfl, (hp_52).aft⟩

end Go.Proofs.Ytcnchjlomcafeaa.W

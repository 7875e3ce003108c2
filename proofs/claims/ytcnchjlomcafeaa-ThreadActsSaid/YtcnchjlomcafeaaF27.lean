/- Functions of the program as plain Lean functions, and that the calls do what they say: written by w2.py. -/
import Derived.Test.YtcnchjlomcafeaaDefer
import Derived.Test.YtcnchjlomcafeaaTy
import Derived.Test.YtcnchjlomcafeaaF26
set_option linter.unusedVariables false
set_option linter.unusedSimpArgs false
set_option linter.unusedSectionVars false
namespace Go.Proofs.Ytcnchjlomcafeaa.W
open Go Go.RowKit Go.Proofs.Ytcnchjlomcafeaa.B
attribute [local irreducible] Go.wpList Go.Code.wp Go.Region.wanted Go.yielded
/-! ### selvage/selvageref16.Acts: function 15 -/
def selvageref16_Acts.l1 (a0 : List api_Event) (x_9 : (List api_Act) × Int) (x_79 : Bool × Int) : Option ((Bool × Int) ⊕ Bool) :=
  if (decide (x_79.2 < (a0.length : Int))) = true then ((((selvageref16_paired.m a0 x_79.2).bind fun r_93 => (if r_93 = true then (if 0 ≤ x_79.2 ∧ x_79.2 < (a0.length : Int) then (some (decide (((gi a0 x_79.2).Pair) = (wrap64 (x_9.2 + 1))))) else none) else (some false)) : Option Bool).bind fun o_89 => if o_89 = true then (some false) else (some x_79.1) : Option Bool).bind fun o_87 => some (Sum.inl (o_87, wrap64 (x_79.2 + 1)))) else ((some x_79.1).map Sum.inr)
def selvageref16_Acts.l0 (a0 : List api_Event) (a1 : List api_Loc) (x_9 : (List api_Act) × Int) : Option (((List api_Act) × Int) ⊕ (List api_Act)) :=
  if (decide (x_9.2 < (a0.length : Int))) = true then ((if 0 ≤ x_9.2 ∧ x_9.2 < (a0.length : Int) then ((if ((decide (((gi a0 x_9.2).Kind) = 1)) || (decide (((gi a0 x_9.2).Kind) = 2))) = true then ((if ((decide (((gi a0 x_9.2).Loc) ≥ 0)) && (decide (((gi a0 x_9.2).Loc) < (a1.length : Int)))) = true then (if 0 ≤ ((gi a0 x_9.2).Loc) ∧ ((gi a0 x_9.2).Loc) < (a1.length : Int) then (some ((gi a1 ((gi a0 x_9.2).Loc)).Atomic)) else none) else (some false) : Option Bool).bind fun o_37 => if o_37 = true then (some (wrap64 (((gi a0 x_9.2).Kind) + 2))) else (some ((gi a0 x_9.2).Kind))) else (some 0) : Option Int).bind fun o_34 => if (decide (((gi a0 x_9.2).Kind) = 6)) = true then (if (x_9.1.length + ([(⟨6, 0, 0, (gi a0 x_9.2).Val⟩ : api_Act)] : List api_Act).length) * 32 ≤ 140737488355328 then (some (x_9.1 ++ ([(⟨6, 0, 0, (gi a0 x_9.2).Val⟩ : api_Act)] : List api_Act))) else none) else (if (decide (((gi a0 x_9.2).Kind) = 1)) = true then ((loop (selvageref16_Acts.l1 a0 x_9) (true, wrap64 (x_9.2 + 1)) : Option Bool).bind fun o_77 => if o_77 = true then (if (x_9.1.length + ([(⟨o_34, (gi a0 x_9.2).Loc, (gi a0 x_9.2).Val, 0⟩ : api_Act)] : List api_Act).length) * 32 ≤ 140737488355328 then (some (x_9.1 ++ ([(⟨o_34, (gi a0 x_9.2).Loc, (gi a0 x_9.2).Val, 0⟩ : api_Act)] : List api_Act))) else none) else (some x_9.1)) else ((selvageref16_paired.m a0 x_9.2).bind fun r_143 => (if r_143 = true then (if 0 ≤ (wrap64 (((gi a0 x_9.2).Pair) - 1)) ∧ (wrap64 (((gi a0 x_9.2).Pair) - 1)) < (a0.length : Int) then (if (x_9.1.length + ([(⟨5, (gi a0 x_9.2).Loc, (gi a0 (wrap64 (((gi a0 x_9.2).Pair) - 1))).Val, (gi a0 x_9.2).Val⟩ : api_Act)] : List api_Act).length) * 32 ≤ 140737488355328 then (some (x_9.1 ++ ([(⟨5, (gi a0 x_9.2).Loc, (gi a0 (wrap64 (((gi a0 x_9.2).Pair) - 1))).Val, (gi a0 x_9.2).Val⟩ : api_Act)] : List api_Act))) else none) else none) else (if (decide (((gi a0 x_9.2).Kind) = 2)) = true then (if (x_9.1.length + ([(⟨o_34, (gi a0 x_9.2).Loc, 0, (gi a0 x_9.2).Val⟩ : api_Act)] : List api_Act).length) * 32 ≤ 140737488355328 then (some (x_9.1 ++ ([(⟨o_34, (gi a0 x_9.2).Loc, 0, (gi a0 x_9.2).Val⟩ : api_Act)] : List api_Act))) else none) else (some x_9.1)))))) else none : Option (List api_Act)).bind fun o_21 => some (Sum.inl (o_21, wrap64 (x_9.2 + 1)))) else ((some x_9.1).map Sum.inr)
def selvageref16_Acts.m (a0 : List api_Event) (a1 : List api_Loc) : Option (List api_Act) :=
  (loop (selvageref16_Acts.l0 a0 a1) (([] : List api_Act), 0) : Option (List api_Act)).bind fun o_7 => some o_7
set_option maxHeartbeats 4000000 in
set_option maxRecDepth 100000 in
theorem selvageref16_Acts.calls (a0 : List api_Event) (A_1 : Option Addr) (c_2 : Nat) (a1 : List api_Loc) (A_4 : Option Addr) (c_5 : Nat) (r : List api_Act) (w : World) (F : Nat → Prop) (hF : ∀ k, F k → Off w [] k) (q_3 : RdS api_Event_E F w A_1 c_2 a0) (q_6 : RdS api_Loc_E F w A_4 c_5 a1) (H : selvageref16_Acts.m a0 a1 = some r) :
    Ret Try.prog 15 [.slice A_1 a0.length c_2, .slice A_4 a1.length c_5] w fun v w' => ∃ (A_1203 : Option Addr) (c_1204 : Nat) (X_1206 : Rsc), v = .slice A_1203 r.length c_1204 ∧ Own api_Act_E no wz 77 A_1203 c_1204 r X_1206 ∧ Aft w w' [] [X_1206] := by
  unfold selvageref16_Acts.m at H
  have hp0 := Hp.startR (R := []) (Have.nil w) hF
  have ep0 := Ep.refl F [] w
  refine enter (L := [(0, .slice A_1 a0.length c_2), (1, .slice A_4 a1.length c_5)]) Try.func15 rfl Try.ntmps15 rfl rfl ?_
  refine k_seq ?_
  refine k_region ?_
  refine sv (v := .slice none 0 0) rfl rfl rfl (e_assign rfl) ?_
  refine k_nil ?_
  refine k_seq ?_
  refine k_region ?_
  refine sv (v := .slice none 0 0) rfl rfl rfl (e_assign rfl) ?_
  refine k_nil ?_
  refine k_seq ?_
  refine k_seq ?_
  refine k_region ?_
  refine sv (v := .int .i64 0) rfl rfl rfl (e_assign rfl) ?_
  refine k_nil ?_
  obtain ⟨o_7, H, G_8⟩ := bindSome H
  refine k_cut (fun a w' => ∃ (σ_203 : Nat → Value) (A_207 : Option Addr) (c_210 : Nat) (X_208 : Rsc), a = st 129 [(5, .slice A_207 o_7.length c_210)] σ_203 [] ∧ Hp (On []) F w w w' [X_208] ∧ Own api_Act_E no wz 77 A_207 c_210 o_7 X_208) ?_ ?_
  · as_aux_lemma =>
      refine k_block ?_
      refine k_lp (fun (x_9 : (List api_Act) × Int) a w' => ∃ (σ_194 : Nat → Value) (A_198 : Option Addr) (c_201 : Nat) (X_199 : Rsc), a = st 129 [(0, .slice A_1 a0.length c_2), (1, .slice A_4 a1.length c_5), (5, .slice A_198 x_9.1.length c_201), (6, .int .i64 x_9.2)] σ_194 [] ∧ Hp (On []) F w w w' [X_199] ∧ Own api_Act_E no wz 77 A_198 c_201 x_9.1 X_199) H ⟨_, none, 0, [], seenF ⟨rfl, rfl, rfl, rfl, trivial⟩, hp0.pick [0] (by decide) rfl, Own.nil _ _ _ _⟩ ?_
      clear H
      rintro x_9 a w' z_ ⟨σ_12, A_16, c_19, X_17, rfl, hp_13, O_18⟩ H hz_10
      unfold selvageref16_Acts.l0 at H
      refine k_seq ?_
      refine k_seq ?_
      refine k_region ?_
      refine sv (v := .int .i64 x_9.2) rfl rfl rfl (e_move (tm rfl rfl)) ?_
      refine sv (v := .slice A_1 a0.length c_2) rfl rfl rfl (e_move (tm rfl rfl)) ?_
      refine sv (v := .int .i64 (a0.length : Int)) rfl rfl rfl (e_builtin (.cons (tm rfl rfl) .nil) (r_lens Try.runUnderlying26)) ?_
      refine sv (v := .bool (decide (x_9.2 < (a0.length : Int)))) rfl rfl rfl (e_bin (tm rfl rfl) (tm rfl rfl) (r_lss rfl)) ?_
      refine k_nil ?_
      refine k_if (tm rfl rfl) (fun h_20 => ?_) (fun h_20 => ?_)
      · as_aux_lemma =>
          have H := ift h_20 H
          refine k_skip ?_
          refine k_seq ?_
          obtain ⟨o_21, H, G_22⟩ := bindSome H
          refine k_cut (fun a w' => ∃ (σ_194 : Nat → Value) (A_198 : Option Addr) (c_201 : Nat) (X_199 : Rsc), a = st 129 [(0, .slice A_1 a0.length c_2), (1, .slice A_4 a1.length c_5), (5, .slice A_198 o_21.length c_201), (6, .int .i64 x_9.2)] σ_194 [] ∧ Hp (On []) F w w w' [X_199] ∧ Own api_Act_E no wz 77 A_198 c_201 o_21 X_199) ?_ ?_
          · as_aux_lemma =>
              refine k_block ?_
              refine k_seq ?_
              refine k_region ?_
              refine sv (v := .slice A_1 a0.length c_2) rfl rfl rfl (e_move (tm rfl rfl)) ?_
              refine sv (v := .int .i64 x_9.2) rfl rfl rfl (e_move (tm rfl rfl)) ?_
              obtain ⟨g_23, H⟩ := grd H
              obtain ⟨a_28, cs_25, pl_26, q_27, rp_24⟩ := rd_idx q_3 g_23
              obtain rfl : cs_25 = [.int .i64 ((gi a0 x_9.2).Kind), .int .i64 ((gi a0 x_9.2).Loc), .int .i64 ((gi a0 x_9.2).Val), .int .i64 ((gi a0 x_9.2).Pair), .int .u64 ((gi a0 x_9.2).Addr), .int .u64 ((gi a0 x_9.2).Data), .int .u64 ((gi a0 x_9.2).Ctrl), .int .u64 ((gi a0 x_9.2).Fenced)] := rp_24
              refine sv (v := .pointer (some a_28)) rfl rfl rfl (e_idx (tm rfl rfl) (tm rfl rfl) Try.runUnderlying26 Try.sizeOf33 pl_26 g_23) ?_
              refine sv (v := .agg #[.int .i64 ((gi a0 x_9.2).Kind), .int .i64 ((gi a0 x_9.2).Loc), .int .i64 ((gi a0 x_9.2).Val), .int .i64 ((gi a0 x_9.2).Pair), .int .u64 ((gi a0 x_9.2).Addr), .int .u64 ((gi a0 x_9.2).Data), .int .u64 ((gi a0 x_9.2).Ctrl), .int .u64 ((gi a0 x_9.2).Fenced)]) rfl rfl rfl (e_loadA (tm rfl rfl) Try.isAgg33 Try.sizeOf33 rfl ((hp_13.ep q_27))) ?_
              refine s_alloc (zv := .agg #[.int .i64 0, .int .i64 0, .int .i64 0, .int .i64 0, .int .u64 0, .int .u64 0, .int .u64 0, .int .u64 0]) (l := [.int .i64 0, .int .i64 0, .int .i64 0, .int .i64 0, .int .u64 0, .int .u64 0, .int .u64 0, .int .u64 0]) hp_13 (by intro w_; kernel_rfl) rfl rfl (fun b_29 w_30 hp_31 => ?_)
              refine s_store (i := 1) (j := 0) (vs := [.int .i64 ((gi a0 x_9.2).Kind), .int .i64 ((gi a0 x_9.2).Loc), .int .i64 ((gi a0 x_9.2).Val), .int .i64 ((gi a0 x_9.2).Pair), .int .u64 ((gi a0 x_9.2).Addr), .int .u64 ((gi a0 x_9.2).Data), .int .u64 ((gi a0 x_9.2).Ctrl), .int .u64 ((gi a0 x_9.2).Fenced)]) (l' := [.int .i64 ((gi a0 x_9.2).Kind), .int .i64 ((gi a0 x_9.2).Loc), .int .i64 ((gi a0 x_9.2).Val), .int .i64 ((gi a0 x_9.2).Pair), .int .u64 ((gi a0 x_9.2).Addr), .int .u64 ((gi a0 x_9.2).Data), .int .u64 ((gi a0 x_9.2).Ctrl), .int .u64 ((gi a0 x_9.2).Fenced)]) hp_31 (tm rfl rfl) (tm rfl rfl) rfl Try.sizeOf33 rfl rfl rfl rfl rfl rfl (fun w_32 hp_33 => ?_)
              refine k_nil ?_
              refine k_seq ?_
              refine k_region ?_
              refine sv (v := .int .i64 0) rfl rfl rfl (e_assign rfl) ?_
              refine k_nil ?_
              refine k_seq ?_
              refine k_seq ?_
              refine k_region ?_
              refine sv (v := .pointer (some ⟨b_29, 0, none⟩)) rfl rfl rfl (e_fieldAddr (tm rfl rfl) Try.runUnderlying33 rfl Try.sizeOf3 rfl rfl) ?_
              refine sv (v := .int .i64 ((gi a0 x_9.2).Kind)) rfl rfl rfl (e_load1 (tm rfl rfl) Try.isAgg3 (cell_atL (hp_33.get (i := 1) (j := 0) rfl rfl) rfl)) ?_
              refine sv (v := .bool (decide (((gi a0 x_9.2).Kind) = 1))) rfl rfl rfl (e_bin (tm rfl rfl) rfl (r_eql rfl)) ?_
              refine sv (v := .bool (decide (((gi a0 x_9.2).Kind) = 1))) rfl rfl rfl (e_move (tm rfl rfl)) ?_
              refine s_gp (v := .pointer (some ⟨b_29, 0, none⟩)) rfl rfl rfl (beq_f _) (fun g_ => e_fieldAddr (tm rfl rfl) Try.runUnderlying33 rfl Try.sizeOf3 rfl rfl) rfl ?_
              refine s_gp (v := .int .i64 ((gi a0 x_9.2).Kind)) rfl rfl rfl (beq_f _) (fun g_ => e_load1 (tmg (!(decide (((gi a0 x_9.2).Kind) = 1))) (.pointer (some ⟨b_29, 0, none⟩)) rfl rfl g_) Try.isAgg3 (cell_atL (hp_33.get (i := 1) (j := 0) rfl rfl) rfl)) rfl ?_
              refine s_gp (v := .bool (decide (((gi a0 x_9.2).Kind) = 2))) rfl rfl rfl (beq_f _) (fun g_ => e_bin (tmg (!(decide (((gi a0 x_9.2).Kind) = 1))) (.int .i64 ((gi a0 x_9.2).Kind)) rfl rfl g_) rfl (r_eql rfl)) rfl ?_
              refine sv (v := .bool ((decide (((gi a0 x_9.2).Kind) = 1)) || (decide (((gi a0 x_9.2).Kind) = 2)))) rfl rfl rfl (e_pick (v1 := .bool true) (v2 := .bool (decide (((gi a0 x_9.2).Kind) = 2))) (tm rfl rfl) (fun _ => rfl) (fun h_ => tmg (!(decide (((gi a0 x_9.2).Kind) = 1))) (.bool (decide (((gi a0 x_9.2).Kind) = 2))) rfl rfl (nt h_)) (pk_or (decide (((gi a0 x_9.2).Kind) = 1)))) ?_
              refine k_nil ?_
              obtain ⟨o_34, H, G_35⟩ := bindSome H
              refine k_cut (fun a w' => ∃ (σ_185 : Nat → Value), a = st 129 [(0, .slice A_1 a0.length c_2), (1, .slice A_4 a1.length c_5), (5, .slice A_16 x_9.1.length c_19), (6, .int .i64 x_9.2), (7, .pointer (some ⟨b_29, 0, none⟩)), (8, .int .i64 o_34)] σ_185 [] ∧ Hp (On []) F w w w' [X_17, [(b_29, .cells #[.int .i64 ((gi a0 x_9.2).Kind), .int .i64 ((gi a0 x_9.2).Loc), .int .i64 ((gi a0 x_9.2).Val), .int .i64 ((gi a0 x_9.2).Pair), .int .u64 ((gi a0 x_9.2).Addr), .int .u64 ((gi a0 x_9.2).Data), .int .u64 ((gi a0 x_9.2).Ctrl), .int .u64 ((gi a0 x_9.2).Fenced)] 33 (0, 0))]]) ?_ ?_
              · as_aux_lemma =>
                  refine k_if (tm rfl rfl) (fun h_36 => ?_) (fun h_36 => ?_)
                  · as_aux_lemma =>
                      have H := ift h_36 H
                      refine k_seq ?_
                      refine k_region ?_
                      refine sv (v := .pointer (some ⟨b_29, 0, none⟩)) rfl rfl rfl (e_fieldAddr (tm rfl rfl) Try.runUnderlying33 rfl Try.sizeOf3 rfl rfl) ?_
                      refine sv (v := .int .i64 ((gi a0 x_9.2).Kind)) rfl rfl rfl (e_load1 (tm rfl rfl) Try.isAgg3 (cell_atL (hp_33.get (i := 1) (j := 0) rfl rfl) rfl)) ?_
                      refine sv (v := .int .i64 ((gi a0 x_9.2).Kind)) rfl rfl rfl (e_assign (tm rfl rfl)) ?_
                      refine k_nil ?_
                      refine k_seq ?_
                      obtain ⟨o_37, H, G_38⟩ := bindSome H
                      refine k_cut (fun a w' => ∃ (σ_58 : Nat → Value), a = st 129 [(0, .slice A_1 a0.length c_2), (1, .slice A_4 a1.length c_5), (5, .slice A_16 x_9.1.length c_19), (6, .int .i64 x_9.2), (7, .pointer (some ⟨b_29, 0, none⟩)), (8, .int .i64 ((gi a0 x_9.2).Kind)), (48, .bool o_37)] σ_58 [] ∧ Hp (On []) F w w w' [X_17, [(b_29, .cells #[.int .i64 ((gi a0 x_9.2).Kind), .int .i64 ((gi a0 x_9.2).Loc), .int .i64 ((gi a0 x_9.2).Val), .int .i64 ((gi a0 x_9.2).Pair), .int .u64 ((gi a0 x_9.2).Addr), .int .u64 ((gi a0 x_9.2).Data), .int .u64 ((gi a0 x_9.2).Ctrl), .int .u64 ((gi a0 x_9.2).Fenced)] 33 (0, 0))]]) ?_ ?_
                      · as_aux_lemma =>
                          refine k_region ?_
                          refine sv (v := .pointer (some ⟨b_29, 1, none⟩)) rfl rfl rfl (e_fieldAddr (tm rfl rfl) Try.runUnderlying33 rfl Try.sizeOf3 rfl rfl) ?_
                          refine sv (v := .int .i64 ((gi a0 x_9.2).Loc)) rfl rfl rfl (e_load1 (tm rfl rfl) Try.isAgg3 (cell_atL (hp_33.get (i := 1) (j := 0) rfl rfl) rfl)) ?_
                          refine sv (v := .bool (decide (((gi a0 x_9.2).Loc) ≥ 0))) rfl rfl rfl (e_bin (tm rfl rfl) rfl (r_geq rfl)) ?_
                          refine sv (v := .bool (decide (((gi a0 x_9.2).Loc) ≥ 0))) rfl rfl rfl (e_move (tm rfl rfl)) ?_
                          refine s_gp (v := .pointer (some ⟨b_29, 1, none⟩)) rfl rfl rfl (beq_t _) (fun g_ => e_fieldAddr (tm rfl rfl) Try.runUnderlying33 rfl Try.sizeOf3 rfl rfl) rfl ?_
                          refine s_gp (v := .int .i64 ((gi a0 x_9.2).Loc)) rfl rfl rfl (beq_t _) (fun g_ => e_load1 (tmg (decide (((gi a0 x_9.2).Loc) ≥ 0)) (.pointer (some ⟨b_29, 1, none⟩)) rfl rfl g_) Try.isAgg3 (cell_atL (hp_33.get (i := 1) (j := 0) rfl rfl) rfl)) rfl ?_
                          refine s_gp (v := .slice A_4 a1.length c_5) rfl rfl rfl (beq_t _) (fun g_ => e_move (tm rfl rfl)) rfl ?_
                          refine s_gp (v := .int .i64 (a1.length : Int)) rfl rfl rfl (beq_t _) (fun g_ => e_builtin (.cons (tmg (decide (((gi a0 x_9.2).Loc) ≥ 0)) (.slice A_4 a1.length c_5) rfl rfl g_) .nil) (r_lens Try.runUnderlying37)) rfl ?_
                          refine s_gp (v := .bool (decide (((gi a0 x_9.2).Loc) < (a1.length : Int)))) rfl rfl rfl (beq_t _) (fun g_ => e_bin (tmg (decide (((gi a0 x_9.2).Loc) ≥ 0)) (.int .i64 ((gi a0 x_9.2).Loc)) rfl rfl g_) (tmg (decide (((gi a0 x_9.2).Loc) ≥ 0)) (.int .i64 (a1.length : Int)) rfl rfl g_) (r_lss rfl)) rfl ?_
                          refine sv (v := .bool ((decide (((gi a0 x_9.2).Loc) ≥ 0)) && (decide (((gi a0 x_9.2).Loc) < (a1.length : Int))))) rfl rfl rfl (e_pick (v1 := .bool (decide (((gi a0 x_9.2).Loc) < (a1.length : Int)))) (v2 := .bool false) (tm rfl rfl) (fun h_ => tmg (decide (((gi a0 x_9.2).Loc) ≥ 0)) (.bool (decide (((gi a0 x_9.2).Loc) < (a1.length : Int)))) rfl rfl h_) (fun _ => rfl) (pk_and (decide (((gi a0 x_9.2).Loc) ≥ 0)))) ?_
                          refine sv (v := .bool ((decide (((gi a0 x_9.2).Loc) ≥ 0)) && (decide (((gi a0 x_9.2).Loc) < (a1.length : Int))))) rfl rfl rfl (e_move (tm rfl rfl)) ?_
                          refine s_gp (v := .slice A_4 a1.length c_5) rfl rfl rfl (beq_t _) (fun g_ => e_move (tm rfl rfl)) rfl ?_
                          refine s_gp (v := .pointer (some ⟨b_29, 1, none⟩)) rfl rfl rfl (beq_t _) (fun g_ => e_fieldAddr (tm rfl rfl) Try.runUnderlying33 rfl Try.sizeOf3 rfl rfl) rfl ?_
                          refine s_gp (v := .int .i64 ((gi a0 x_9.2).Loc)) rfl rfl rfl (beq_t _) (fun g_ => e_load1 (tmg ((decide (((gi a0 x_9.2).Loc) ≥ 0)) && (decide (((gi a0 x_9.2).Loc) < (a1.length : Int)))) (.pointer (some ⟨b_29, 1, none⟩)) rfl rfl g_) Try.isAgg3 (cell_atL (hp_33.get (i := 1) (j := 0) rfl rfl) rfl)) rfl ?_
                          rcases Bool.eq_false_or_eq_true ((decide (((gi a0 x_9.2).Loc) ≥ 0)) && (decide (((gi a0 x_9.2).Loc) < (a1.length : Int)))) with h_45 | h_45
                          · have H := ift h_45 H
                            refine gon rfl rfl (congrArg Value.bool h_45) ?_
                            obtain ⟨g_46, H⟩ := grd H
                            obtain ⟨a_51, cs_48, pl_49, q_50, rp_47⟩ := rd_idx q_6 g_46
                            obtain rfl : cs_48 = [.bool ((gi a1 ((gi a0 x_9.2).Loc)).Atomic), .int .i64 ((gi a1 ((gi a0 x_9.2).Loc)).Init)] := rp_47
                            refine sv (v := .pointer (some a_51)) rfl rfl rfl (e_idx (tmg ((decide (((gi a0 x_9.2).Loc) ≥ 0)) && (decide (((gi a0 x_9.2).Loc) < (a1.length : Int)))) (.slice A_4 a1.length c_5) rfl rfl h_45) (tmg ((decide (((gi a0 x_9.2).Loc) ≥ 0)) && (decide (((gi a0 x_9.2).Loc) < (a1.length : Int)))) (.int .i64 ((gi a0 x_9.2).Loc)) rfl rfl h_45) Try.runUnderlying37 Try.sizeOf81 pl_49 g_46) ?_
                            refine gon rfl rfl (congrArg Value.bool h_45) ?_
                            refine sv (v := .pointer (some a_51)) rfl rfl rfl (e_fieldAddr (tm rfl rfl) Try.runUnderlying81 rfl Try.sizeOf4 rfl rfl) ?_
                            refine gon rfl rfl (congrArg Value.bool h_45) ?_
                            refine sv (v := .bool ((gi a1 ((gi a0 x_9.2).Loc)).Atomic)) rfl rfl rfl (e_load1 (tm rfl rfl) Try.isAgg4 (cells_zero (hp_33.ep q_50) rfl)) ?_
                            refine sv (v := .bool ((gi a1 ((gi a0 x_9.2).Loc)).Atomic)) rfl rfl rfl (e_pick (b := ((decide (((gi a0 x_9.2).Loc) ≥ 0)) && (decide (((gi a0 x_9.2).Loc) < (a1.length : Int))))) (v1 := .bool ((gi a1 ((gi a0 x_9.2).Loc)).Atomic)) (v2 := .bool ((gi a1 ((gi a0 x_9.2).Loc)).Atomic)) (tm rfl rfl) (fun _ => (tm rfl rfl)) (fun h_ => pk_no h_ h_45) (pk_same _ _)) ?_
                            refine k_nil ?_
                            obtain rfl := Option.some.inj H
                            exact ⟨_, seenF ⟨rfl, rfl, rfl, rfl, rfl, rfl, rfl, trivial⟩, hp_33⟩
                          have H := iff_ h_45 H
                          refine goff rfl rfl (congrArg Value.bool h_45) rfl ?_
                          refine goff rfl rfl (congrArg Value.bool h_45) rfl ?_
                          refine goff rfl rfl (congrArg Value.bool h_45) rfl ?_
                          refine sv (v := .bool false) rfl rfl rfl (e_pick (b := ((decide (((gi a0 x_9.2).Loc) ≥ 0)) && (decide (((gi a0 x_9.2).Loc) < (a1.length : Int))))) (v1 := .bool false) (v2 := .bool false) (tm rfl rfl) (fun h_ => pk_no h_45 h_) (fun _ => rfl) (pk_same _ _)) ?_
                          refine k_nil ?_
                          obtain rfl := Option.some.inj H
                          exact ⟨_, seenF ⟨rfl, rfl, rfl, rfl, rfl, rfl, rfl, trivial⟩, hp_33⟩
                      clear H
                      rintro a w' ⟨σ_52, rfl, hp_53⟩
                      have H := G_38
                      refine k_if (tm rfl rfl) (fun h_56 => ?_) (fun h_56 => ?_)
                      · have H := ift h_56 H
                        refine k_region ?_
                        refine sv (v := .int .i64 ((gi a0 x_9.2).Kind)) rfl rfl rfl (e_move (tm rfl rfl)) ?_
                        refine sv (v := .int .i64 (wrap64 (((gi a0 x_9.2).Kind) + 2))) rfl rfl rfl (e_bin (tm rfl rfl) rfl (r_add (wrap_i64 _))) ?_
                        refine sv (v := .int .i64 (wrap64 (((gi a0 x_9.2).Kind) + 2))) rfl rfl rfl (e_assign (tm rfl rfl)) ?_
                        refine k_nil ?_
                        obtain rfl := Option.some.inj H
                        exact ⟨_, seenF ⟨rfl, rfl, rfl, rfl, rfl, rfl, trivial⟩, hp_53⟩
                      have H := iff_ h_56 H
                      refine k_skip ?_
                      obtain rfl := Option.some.inj H
                      exact ⟨_, seenF ⟨rfl, rfl, rfl, rfl, rfl, rfl, trivial⟩, hp_53⟩
                  have H := iff_ h_36 H
                  refine k_skip ?_
                  obtain rfl := Option.some.inj H
                  exact ⟨_, seenF ⟨rfl, rfl, rfl, rfl, rfl, rfl, trivial⟩, hp_33⟩
              clear H
              rintro a w' ⟨σ_58, rfl, hp_59⟩
              have H := G_35
              refine k_block ?_
              refine k_seq ?_
              refine k_region ?_
              refine sv (v := .pointer (some ⟨b_29, 0, none⟩)) rfl rfl rfl (e_fieldAddr (tm rfl rfl) Try.runUnderlying33 rfl Try.sizeOf3 rfl rfl) ?_
              refine sv (v := .int .i64 ((gi a0 x_9.2).Kind)) rfl rfl rfl (e_load1 (tm rfl rfl) Try.isAgg3 (cell_atL (hp_59.get (i := 1) (j := 0) rfl rfl) rfl)) ?_
              refine sv (v := .bool (decide (((gi a0 x_9.2).Kind) = 6))) rfl rfl rfl (e_bin (tm rfl rfl) rfl (r_eql rfl)) ?_
              refine sv (v := .bool (decide (((gi a0 x_9.2).Kind) = 6))) rfl rfl rfl (e_assign (tm rfl rfl)) ?_
              refine k_nil ?_
              refine k_if (tm rfl rfl) (fun h_62 => ?_) (fun h_62 => ?_)
              · have H := ift h_62 H
                refine k_region ?_
                refine sv (v := .slice A_16 x_9.1.length c_19) rfl rfl rfl (e_move (tm rfl rfl)) ?_
                refine sv (v := .pointer (some ⟨b_29, 2, none⟩)) rfl rfl rfl (e_fieldAddr (tm rfl rfl) Try.runUnderlying33 rfl Try.sizeOf2 rfl rfl) ?_
                refine sv (v := .int .i64 ((gi a0 x_9.2).Val)) rfl rfl rfl (e_load1 (tm rfl rfl) Try.isAgg2 (cell_atL (hp_59.get (i := 1) (j := 0) rfl rfl) rfl)) ?_
                refine sv (v := .agg #[.int .i64 6, .int .i64 0, .int .i64 0, .int .i64 ((gi a0 x_9.2).Val)]) rfl rfl rfl (e_build (vs := [(0, .int .i64 6), (3, .int .i64 ((gi a0 x_9.2).Val))]) (cs := [.int .i64 6, .int .i64 0, .int .i64 0, .int .i64 ((gi a0 x_9.2).Val)]) (.cons rfl (.cons (tm rfl rfl) .nil)) (by kernel_rfl)) ?_
                refine s_buildSlice (zv := .agg #[.int .i64 0, .int .i64 0, .int .i64 0, .int .i64 0]) (E := api_Act_E) (F := no) (wf := wz) (xs := ([(⟨6, 0, 0, (gi a0 x_9.2).Val⟩ : api_Act)] : List api_Act)) (cs := [.int .i64 6, .int .i64 0, .int .i64 0, .int .i64 ((gi a0 x_9.2).Val)]) (vs := [(0, .agg #[.int .i64 6, .int .i64 0, .int .i64 0, .int .i64 ((gi a0 x_9.2).Val)])]) hp_59 (.cons (tm rfl rfl) .nil) Try.runUnderlying39 Try.sizeOf77 (by intro w_; kernel_rfl) rfl rfl rfl (Reps.cat.2 rfl) (by kernel_rfl) rfl (fun A_63 c_64 w_65 X_66 hp_67 O_68 => ?_)
                obtain ⟨g_69, H⟩ := grd H
                refine s_append (E := api_Act_E) (F := no) (wf := wz) (xs := x_9.1) (ys := ([(⟨6, 0, 0, (gi a0 x_9.2).Val⟩ : api_Act)] : List api_Act)) (r := 0) hp_67 (tm rfl rfl) (tm rfl rfl) Try.underlying39 rfl rfl rfl rfl rfl rfl rfl O_18 (Own.src O_68 hp_67 (i := 2) rfl) g_69 rfl (fun A_70 c_71 w_72 X_73 hp_74 O_75 => ?_)
                refine sv (v := .slice A_70 (x_9.1 ++ ([(⟨6, 0, 0, (gi a0 x_9.2).Val⟩ : api_Act)] : List api_Act)).length c_71) rfl rfl rfl (e_assign (tm rfl rfl)) ?_
                refine k_nil ?_
                obtain rfl := Option.some.inj H
                exact ⟨_, A_70, c_71, X_73, seenF ⟨rfl, rfl, rfl, rfl, trivial⟩, hp_74.pick [0] (by decide) rfl, O_75⟩
              have H := iff_ h_62 H
              refine k_seq ?_
              refine k_region ?_
              refine sv (v := .pointer (some ⟨b_29, 0, none⟩)) rfl rfl rfl (e_fieldAddr (tm rfl rfl) Try.runUnderlying33 rfl Try.sizeOf3 rfl rfl) ?_
              refine sv (v := .int .i64 ((gi a0 x_9.2).Kind)) rfl rfl rfl (e_load1 (tm rfl rfl) Try.isAgg3 (cell_atL (hp_59.get (i := 1) (j := 0) rfl rfl) rfl)) ?_
              refine sv (v := .bool (decide (((gi a0 x_9.2).Kind) = 1))) rfl rfl rfl (e_bin (tm rfl rfl) rfl (r_eql rfl)) ?_
              refine sv (v := .bool (decide (((gi a0 x_9.2).Kind) = 1))) rfl rfl rfl (e_assign (tm rfl rfl)) ?_
              refine k_nil ?_
              refine k_if (tm rfl rfl) (fun h_76 => ?_) (fun h_76 => ?_)
              · as_aux_lemma =>
                  have H := ift h_76 H
                  refine k_seq ?_
                  refine k_region ?_
                  refine sv (v := .bool true) rfl rfl rfl (e_assign rfl) ?_
                  refine k_nil ?_
                  refine k_seq ?_
                  refine k_seq ?_
                  refine k_region ?_
                  refine sv (v := .int .i64 x_9.2) rfl rfl rfl (e_move (tm rfl rfl)) ?_
                  refine sv (v := .int .i64 (wrap64 (x_9.2 + 1))) rfl rfl rfl (e_bin (tm rfl rfl) rfl (r_add (wrap_i64 _))) ?_
                  refine sv (v := .int .i64 (wrap64 (x_9.2 + 1))) rfl rfl rfl (e_assign (tm rfl rfl)) ?_
                  refine k_nil ?_
                  obtain ⟨o_77, H, G_78⟩ := bindSome H
                  refine k_cut (fun a w' => ∃ (σ_141 : Nat → Value), a = st 129 [(0, .slice A_1 a0.length c_2), (1, .slice A_4 a1.length c_5), (5, .slice A_16 x_9.1.length c_19), (6, .int .i64 x_9.2), (7, .pointer (some ⟨b_29, 0, none⟩)), (8, .int .i64 o_34), (9, .bool o_77)] σ_141 [] ∧ Hp (On []) F w w w' [X_17, [(b_29, .cells #[.int .i64 ((gi a0 x_9.2).Kind), .int .i64 ((gi a0 x_9.2).Loc), .int .i64 ((gi a0 x_9.2).Val), .int .i64 ((gi a0 x_9.2).Pair), .int .u64 ((gi a0 x_9.2).Addr), .int .u64 ((gi a0 x_9.2).Data), .int .u64 ((gi a0 x_9.2).Ctrl), .int .u64 ((gi a0 x_9.2).Fenced)] 33 (0, 0))]]) ?_ ?_
                  · as_aux_lemma =>
                      refine k_block ?_
                      refine k_lp (fun (x_79 : Bool × Int) a w' => ∃ (σ_122 : Nat → Value), a = st 129 [(0, .slice A_1 a0.length c_2), (1, .slice A_4 a1.length c_5), (5, .slice A_16 x_9.1.length c_19), (6, .int .i64 x_9.2), (7, .pointer (some ⟨b_29, 0, none⟩)), (8, .int .i64 o_34), (9, .bool x_79.1), (10, .int .i64 x_79.2)] σ_122 [] ∧ Hp (On []) F w w w' [X_17, [(b_29, .cells #[.int .i64 ((gi a0 x_9.2).Kind), .int .i64 ((gi a0 x_9.2).Loc), .int .i64 ((gi a0 x_9.2).Val), .int .i64 ((gi a0 x_9.2).Pair), .int .u64 ((gi a0 x_9.2).Addr), .int .u64 ((gi a0 x_9.2).Data), .int .u64 ((gi a0 x_9.2).Ctrl), .int .u64 ((gi a0 x_9.2).Fenced)] 33 (0, 0))]]) H ⟨_, seenF ⟨rfl, rfl, rfl, rfl, rfl, rfl, rfl, rfl, trivial⟩, hp_59⟩ ?_
                      clear H
                      rintro x_79 a w' z_ ⟨σ_82, rfl, hp_83⟩ H hz_80
                      unfold selvageref16_Acts.l1 at H
                      refine k_seq ?_
                      refine k_seq ?_
                      refine k_region ?_
                      refine sv (v := .int .i64 x_79.2) rfl rfl rfl (e_move (tm rfl rfl)) ?_
                      refine sv (v := .slice A_1 a0.length c_2) rfl rfl rfl (e_move (tm rfl rfl)) ?_
                      refine sv (v := .int .i64 (a0.length : Int)) rfl rfl rfl (e_builtin (.cons (tm rfl rfl) .nil) (r_lens Try.runUnderlying26)) ?_
                      refine sv (v := .bool (decide (x_79.2 < (a0.length : Int)))) rfl rfl rfl (e_bin (tm rfl rfl) (tm rfl rfl) (r_lss rfl)) ?_
                      refine k_nil ?_
                      refine k_if (tm rfl rfl) (fun h_86 => ?_) (fun h_86 => ?_)
                      · as_aux_lemma =>
                          have H := ift h_86 H
                          refine k_skip ?_
                          refine k_seq ?_
                          obtain ⟨o_87, H, G_88⟩ := bindSome H
                          refine k_cut (fun a w' => ∃ (σ_122 : Nat → Value), a = st 129 [(0, .slice A_1 a0.length c_2), (1, .slice A_4 a1.length c_5), (5, .slice A_16 x_9.1.length c_19), (6, .int .i64 x_9.2), (7, .pointer (some ⟨b_29, 0, none⟩)), (8, .int .i64 o_34), (9, .bool o_87), (10, .int .i64 x_79.2)] σ_122 [] ∧ Hp (On []) F w w w' [X_17, [(b_29, .cells #[.int .i64 ((gi a0 x_9.2).Kind), .int .i64 ((gi a0 x_9.2).Loc), .int .i64 ((gi a0 x_9.2).Val), .int .i64 ((gi a0 x_9.2).Pair), .int .u64 ((gi a0 x_9.2).Addr), .int .u64 ((gi a0 x_9.2).Data), .int .u64 ((gi a0 x_9.2).Ctrl), .int .u64 ((gi a0 x_9.2).Fenced)] 33 (0, 0))]]) ?_ ?_
                          · as_aux_lemma =>
                              refine k_block ?_
                              refine k_seq ?_
                              obtain ⟨o_89, H, G_90⟩ := bindSome H
                              refine k_cut (fun a w' => ∃ (σ_117 : Nat → Value), a = st 129 [(0, .slice A_1 a0.length c_2), (1, .slice A_4 a1.length c_5), (5, .slice A_16 x_9.1.length c_19), (6, .int .i64 x_9.2), (7, .pointer (some ⟨b_29, 0, none⟩)), (8, .int .i64 o_34), (9, .bool x_79.1), (10, .int .i64 x_79.2), (85, .bool o_89)] σ_117 [] ∧ Hp (On []) F w w w' [X_17, [(b_29, .cells #[.int .i64 ((gi a0 x_9.2).Kind), .int .i64 ((gi a0 x_9.2).Loc), .int .i64 ((gi a0 x_9.2).Val), .int .i64 ((gi a0 x_9.2).Pair), .int .u64 ((gi a0 x_9.2).Addr), .int .u64 ((gi a0 x_9.2).Data), .int .u64 ((gi a0 x_9.2).Ctrl), .int .u64 ((gi a0 x_9.2).Fenced)] 33 (0, 0))]]) ?_ ?_
                              · as_aux_lemma =>
                                  refine k_region ?_
                                  refine sv (v := .slice A_1 a0.length c_2) rfl rfl rfl (e_move (tm rfl rfl)) ?_
                                  refine sv (v := .int .i64 x_79.2) rfl rfl rfl (e_move (tm rfl rfl)) ?_
                                  obtain ⟨r_93, hx_92, H⟩ := bindSome H
                                  refine s_call (.cons (tm rfl rfl) (.cons (tm rfl rfl) .nil)) Try.call28 (selvageref16_paired.calls a0 A_1 c_2 x_79.2 r_93 _ _ (Hp.offCov hp_83 [] [X_17, [(b_29, .cells #[.int .i64 ((gi a0 x_9.2).Kind), .int .i64 ((gi a0 x_9.2).Loc), .int .i64 ((gi a0 x_9.2).Val), .int .i64 ((gi a0 x_9.2).Pair), .int .u64 ((gi a0 x_9.2).Addr), .int .u64 ((gi a0 x_9.2).Data), .int .u64 ((gi a0 x_9.2).Ctrl), .int .u64 ((gi a0 x_9.2).Fenced)] 33 (0, 0))]] rfl) (RdS.pass q_3 hp_83) hx_92) rfl ?_
                                  rintro v_ w_94 ⟨rfl, af_97⟩
                                  have hp_95 := Hp.callA af_97 hp_83
                                  refine sv (v := .bool r_93) rfl rfl rfl (e_move (tm rfl rfl)) ?_
                                  refine s_gp (v := .slice A_1 a0.length c_2) rfl rfl rfl (beq_t _) (fun g_ => e_move (tm rfl rfl)) rfl ?_
                                  refine s_gp (v := .int .i64 x_79.2) rfl rfl rfl (beq_t _) (fun g_ => e_move (tm rfl rfl)) rfl ?_
                                  rcases Bool.eq_false_or_eq_true r_93 with h_104 | h_104
                                  · have H := ift h_104 H
                                    refine gon rfl rfl (congrArg Value.bool h_104) ?_
                                    obtain ⟨g_105, H⟩ := grd H
                                    obtain ⟨a_110, cs_107, pl_108, q_109, rp_106⟩ := rd_idx q_3 g_105
                                    obtain rfl : cs_107 = [.int .i64 ((gi a0 x_79.2).Kind), .int .i64 ((gi a0 x_79.2).Loc), .int .i64 ((gi a0 x_79.2).Val), .int .i64 ((gi a0 x_79.2).Pair), .int .u64 ((gi a0 x_79.2).Addr), .int .u64 ((gi a0 x_79.2).Data), .int .u64 ((gi a0 x_79.2).Ctrl), .int .u64 ((gi a0 x_79.2).Fenced)] := rp_106
                                    refine sv (v := .pointer (some a_110)) rfl rfl rfl (e_idx (tmg r_93 (.slice A_1 a0.length c_2) rfl rfl h_104) (tmg r_93 (.int .i64 x_79.2) rfl rfl h_104) Try.runUnderlying26 Try.sizeOf33 pl_108 g_105) ?_
                                    refine gon rfl rfl (congrArg Value.bool h_104) ?_
                                    refine sv (v := .pointer (some (a_110.add 3))) rfl rfl rfl (e_fieldAddr (tm rfl rfl) Try.runUnderlying33 rfl Try.sizeOf3 rfl rfl) ?_
                                    refine gon rfl rfl (congrArg Value.bool h_104) ?_
                                    refine sv (v := .int .i64 ((gi a0 x_79.2).Pair)) rfl rfl rfl (e_load1 (tm rfl rfl) Try.isAgg3 (cells_one (hp_95.ep q_109) rfl)) ?_
                                    refine gon rfl rfl (congrArg Value.bool h_104) ?_
                                    refine sv (v := .int .i64 x_9.2) rfl rfl rfl (e_move (tm rfl rfl)) ?_
                                    refine gon rfl rfl (congrArg Value.bool h_104) ?_
                                    refine sv (v := .int .i64 (wrap64 (x_9.2 + 1))) rfl rfl rfl (e_bin (tm rfl rfl) rfl (r_add (wrap_i64 _))) ?_
                                    refine gon rfl rfl (congrArg Value.bool h_104) ?_
                                    refine sv (v := .bool (decide (((gi a0 x_79.2).Pair) = (wrap64 (x_9.2 + 1))))) rfl rfl rfl (e_bin (tm rfl rfl) (tm rfl rfl) (r_eql rfl)) ?_
                                    refine sv (v := .bool (decide (((gi a0 x_79.2).Pair) = (wrap64 (x_9.2 + 1))))) rfl rfl rfl (e_pick (b := r_93) (v1 := .bool (decide (((gi a0 x_79.2).Pair) = (wrap64 (x_9.2 + 1))))) (v2 := .bool (decide (((gi a0 x_79.2).Pair) = (wrap64 (x_9.2 + 1))))) (tm rfl rfl) (fun _ => (tm rfl rfl)) (fun h_ => pk_no h_ h_104) (pk_same _ _)) ?_
                                    refine k_nil ?_
                                    obtain rfl := Option.some.inj H
                                    exact ⟨_, seenF ⟨rfl, rfl, rfl, rfl, rfl, rfl, rfl, rfl, rfl, trivial⟩, hp_95⟩
                                  have H := iff_ h_104 H
                                  refine goff rfl rfl (congrArg Value.bool h_104) rfl ?_
                                  refine goff rfl rfl (congrArg Value.bool h_104) rfl ?_
                                  refine goff rfl rfl (congrArg Value.bool h_104) rfl ?_
                                  refine goff rfl rfl (congrArg Value.bool h_104) rfl ?_
                                  refine goff rfl rfl (congrArg Value.bool h_104) rfl ?_
                                  refine goff rfl rfl (congrArg Value.bool h_104) rfl ?_
                                  refine sv (v := .bool false) rfl rfl rfl (e_pick (b := r_93) (v1 := .bool false) (v2 := .bool false) (tm rfl rfl) (fun h_ => pk_no h_104 h_) (fun _ => rfl) (pk_same _ _)) ?_
                                  refine k_nil ?_
                                  obtain rfl := Option.some.inj H
                                  exact ⟨_, seenF ⟨rfl, rfl, rfl, rfl, rfl, rfl, rfl, rfl, rfl, trivial⟩, hp_95⟩
                              clear H
                              rintro a w' ⟨σ_111, rfl, hp_112⟩
                              have H := G_90
                              refine k_if (tm rfl rfl) (fun h_115 => ?_) (fun h_115 => ?_)
                              · have H := ift h_115 H
                                refine k_region ?_
                                refine sv (v := .bool false) rfl rfl rfl (e_assign rfl) ?_
                                refine k_nil ?_
                                obtain rfl := Option.some.inj H
                                exact ⟨_, seenF ⟨rfl, rfl, rfl, rfl, rfl, rfl, rfl, rfl, trivial⟩, hp_112⟩
                              have H := iff_ h_115 H
                              refine k_skip ?_
                              obtain rfl := Option.some.inj H
                              exact ⟨_, seenF ⟨rfl, rfl, rfl, rfl, rfl, rfl, rfl, rfl, trivial⟩, hp_112⟩
                          clear H
                          rintro a w' ⟨σ_117, rfl, hp_118⟩
                          have H := G_88
                          refine k_region ?_
                          refine sv (v := .int .i64 x_79.2) rfl rfl rfl (e_move (tm rfl rfl)) ?_
                          refine sv (v := .int .i64 (wrap64 (x_79.2 + 1))) rfl rfl rfl (e_bin (tm rfl rfl) rfl (r_add (wrap_i64 _))) ?_
                          refine sv (v := .int .i64 (wrap64 (x_79.2 + 1))) rfl rfl rfl (e_assign (tm rfl rfl)) ?_
                          refine k_nil ?_
                          obtain rfl := Option.some.inj H
                          exact ⟨_, rfl, ⟨_, seenF ⟨rfl, rfl, rfl, rfl, rfl, rfl, rfl, rfl, trivial⟩, hp_118⟩⟩
                      have H := iff_ h_86 H
                      refine k_exit ?_
                      refine q_here ?_
                      obtain ⟨v_, H', hv_⟩ := mapSome H
                      have hv_ := hz_80 _ hv_
                      subst hv_
                      have H := H'
                      clear H'
                      obtain rfl := Option.some.inj H
                      exact ⟨_, seenF ⟨rfl, rfl, rfl, rfl, rfl, rfl, rfl, trivial⟩, hp_83⟩
                  clear H
                  rintro a w' ⟨σ_122, rfl, hp_123⟩
                  have H := G_78
                  refine k_seq ?_
                  refine k_region ?_
                  refine sv (v := .bool o_77) rfl rfl rfl (e_move (tm rfl rfl)) ?_
                  refine k_nil ?_
                  refine k_if (tm rfl rfl) (fun h_126 => ?_) (fun h_126 => ?_)
                  · have H := ift h_126 H
                    refine k_region ?_
                    refine sv (v := .slice A_16 x_9.1.length c_19) rfl rfl rfl (e_move (tm rfl rfl)) ?_
                    refine sv (v := .int .i64 o_34) rfl rfl rfl (e_move (tm rfl rfl)) ?_
                    refine sv (v := .pointer (some ⟨b_29, 1, none⟩)) rfl rfl rfl (e_fieldAddr (tm rfl rfl) Try.runUnderlying33 rfl Try.sizeOf3 rfl rfl) ?_
                    refine sv (v := .int .i64 ((gi a0 x_9.2).Loc)) rfl rfl rfl (e_load1 (tm rfl rfl) Try.isAgg3 (cell_atL (hp_123.get (i := 1) (j := 0) rfl rfl) rfl)) ?_
                    refine sv (v := .pointer (some ⟨b_29, 2, none⟩)) rfl rfl rfl (e_fieldAddr (tm rfl rfl) Try.runUnderlying33 rfl Try.sizeOf2 rfl rfl) ?_
                    refine sv (v := .int .i64 ((gi a0 x_9.2).Val)) rfl rfl rfl (e_load1 (tm rfl rfl) Try.isAgg2 (cell_atL (hp_123.get (i := 1) (j := 0) rfl rfl) rfl)) ?_
                    refine sv (v := .agg #[.int .i64 o_34, .int .i64 ((gi a0 x_9.2).Loc), .int .i64 ((gi a0 x_9.2).Val), .int .i64 0]) rfl rfl rfl (e_build (vs := [(0, .int .i64 o_34), (1, .int .i64 ((gi a0 x_9.2).Loc)), (2, .int .i64 ((gi a0 x_9.2).Val))]) (cs := [.int .i64 o_34, .int .i64 ((gi a0 x_9.2).Loc), .int .i64 ((gi a0 x_9.2).Val), .int .i64 0]) (.cons (tm rfl rfl) (.cons (tm rfl rfl) (.cons (tm rfl rfl) .nil))) (by kernel_rfl)) ?_
                    refine s_buildSlice (zv := .agg #[.int .i64 0, .int .i64 0, .int .i64 0, .int .i64 0]) (E := api_Act_E) (F := no) (wf := wz) (xs := ([(⟨o_34, (gi a0 x_9.2).Loc, (gi a0 x_9.2).Val, 0⟩ : api_Act)] : List api_Act)) (cs := [.int .i64 o_34, .int .i64 ((gi a0 x_9.2).Loc), .int .i64 ((gi a0 x_9.2).Val), .int .i64 0]) (vs := [(0, .agg #[.int .i64 o_34, .int .i64 ((gi a0 x_9.2).Loc), .int .i64 ((gi a0 x_9.2).Val), .int .i64 0])]) hp_123 (.cons (tm rfl rfl) .nil) Try.runUnderlying39 Try.sizeOf77 (by intro w_; kernel_rfl) rfl rfl rfl (Reps.cat.2 rfl) (by kernel_rfl) rfl (fun A_127 c_128 w_129 X_130 hp_131 O_132 => ?_)
                    obtain ⟨g_133, H⟩ := grd H
                    refine s_append (E := api_Act_E) (F := no) (wf := wz) (xs := x_9.1) (ys := ([(⟨o_34, (gi a0 x_9.2).Loc, (gi a0 x_9.2).Val, 0⟩ : api_Act)] : List api_Act)) (r := 0) hp_131 (tm rfl rfl) (tm rfl rfl) Try.underlying39 rfl rfl rfl rfl rfl rfl rfl O_18 (Own.src O_132 hp_131 (i := 2) rfl) g_133 rfl (fun A_134 c_135 w_136 X_137 hp_138 O_139 => ?_)
                    refine sv (v := .slice A_134 (x_9.1 ++ ([(⟨o_34, (gi a0 x_9.2).Loc, (gi a0 x_9.2).Val, 0⟩ : api_Act)] : List api_Act)).length c_135) rfl rfl rfl (e_assign (tm rfl rfl)) ?_
                    refine k_nil ?_
                    obtain rfl := Option.some.inj H
                    exact ⟨_, A_134, c_135, X_137, seenF ⟨rfl, rfl, rfl, rfl, trivial⟩, hp_138.pick [0] (by decide) rfl, O_139⟩
                  have H := iff_ h_126 H
                  refine k_skip ?_
                  obtain rfl := Option.some.inj H
                  exact ⟨_, A_16, c_19, X_17, seenF ⟨rfl, rfl, rfl, rfl, trivial⟩, hp_123.pick [0] (by decide) rfl, O_18⟩
              have H := iff_ h_76 H
              refine k_seq ?_
              refine k_region ?_
              refine sv (v := .slice A_1 a0.length c_2) rfl rfl rfl (e_move (tm rfl rfl)) ?_
              refine sv (v := .int .i64 x_9.2) rfl rfl rfl (e_move (tm rfl rfl)) ?_
              obtain ⟨r_143, hx_142, H⟩ := bindSome H
              refine s_call (.cons (tm rfl rfl) (.cons (tm rfl rfl) .nil)) Try.call28 (selvageref16_paired.calls a0 A_1 c_2 x_9.2 r_143 _ _ (Hp.offCov hp_59 [] [X_17, [(b_29, .cells #[.int .i64 ((gi a0 x_9.2).Kind), .int .i64 ((gi a0 x_9.2).Loc), .int .i64 ((gi a0 x_9.2).Val), .int .i64 ((gi a0 x_9.2).Pair), .int .u64 ((gi a0 x_9.2).Addr), .int .u64 ((gi a0 x_9.2).Data), .int .u64 ((gi a0 x_9.2).Ctrl), .int .u64 ((gi a0 x_9.2).Fenced)] 33 (0, 0))]] rfl) (RdS.pass q_3 hp_59) hx_142) rfl ?_
              rintro v_ w_144 ⟨rfl, af_147⟩
              have hp_145 := Hp.callA af_147 hp_59
              refine sv (v := .bool r_143) rfl rfl rfl (e_assign (tm rfl rfl)) ?_
              refine k_nil ?_
              refine k_if (tm rfl rfl) (fun h_148 => ?_) (fun h_148 => ?_)
              · as_aux_lemma =>
                  have H := ift h_148 H
                  refine k_any (WF F w [X_17, [(b_29, .cells #[.int .i64 ((gi a0 x_9.2).Kind), .int .i64 ((gi a0 x_9.2).Loc), .int .i64 ((gi a0 x_9.2).Val), .int .i64 ((gi a0 x_9.2).Pair), .int .u64 ((gi a0 x_9.2).Addr), .int .u64 ((gi a0 x_9.2).Data), .int .u64 ((gi a0 x_9.2).Ctrl), .int .u64 ((gi a0 x_9.2).Fenced)] 33 (0, 0))]] [[0, 1], [0, 1], [0, 1], [0, 1], [0, 1], [0, 1], [0, 1], [0, 1], [0, 1], [0, 1], [0, 1], [0, 1], [0, 1], [0, 1], [1], [1]] [0, 0, 2, 0, 0, 16, 48, 120, 248, 504, 0, 1024, 4094, 8190, 16383, 32767]) mixed hp_145 16 (by kernel_rfl) (fun w_149 hp_150 => ?_)
                  refine w_take (m' := 1) (v := .slice A_16 x_9.1.length c_19) 0 rfl rfl (by kernel_rfl) (by kernel_rfl) (by kernel_rfl) (by kernel_rfl) (by kernel_rfl) (by kernel_rfl) (by kernel_rfl) (po_then (po_x (po_x (po_x po_body)))) (Wp.of hp_150 [0, 1] rfl) (y_val (fun w_ hW_ => e_move (tm rfl rfl))) ?_
                  refine w_take (m' := 3) (v := .pointer (some ⟨b_29, 1, none⟩)) 1 rfl rfl (by kernel_rfl) (by kernel_rfl) (by kernel_rfl) (by kernel_rfl) (by kernel_rfl) (by kernel_rfl) (by kernel_rfl) (po_then (po_x (po_x (po_x po_body)))) (Wp.of hp_150 [0, 1] rfl) (y_val (fun w_ hW_ => e_fieldAddr (tm rfl rfl) Try.runUnderlying33 rfl Try.sizeOf3 rfl rfl)) ?_
                  refine w_take (m' := 11) (v := .slice A_1 a0.length c_2) 3 rfl rfl (by kernel_rfl) (by kernel_rfl) (by kernel_rfl) (by kernel_rfl) (by kernel_rfl) (by kernel_rfl) (by kernel_rfl) (po_then (po_x (po_x (po_x po_body)))) (Wp.of hp_150 [0, 1] rfl) (y_val (fun w_ hW_ => e_move (tm rfl rfl))) ?_
                  refine w_take (m' := 27) (v := .pointer (some ⟨b_29, 3, none⟩)) 4 rfl rfl (by kernel_rfl) (by kernel_rfl) (by kernel_rfl) (by kernel_rfl) (by kernel_rfl) (by kernel_rfl) (by kernel_rfl) (po_then (po_x (po_x (po_x po_body)))) (Wp.of hp_150 [0, 1] rfl) (y_val (fun w_ hW_ => e_fieldAddr (tm rfl rfl) Try.runUnderlying33 rfl Try.sizeOf3 rfl rfl)) ?_
                  refine w_take (m' := 1051) (v := .pointer (some ⟨b_29, 2, none⟩)) 10 rfl rfl (by kernel_rfl) (by kernel_rfl) (by kernel_rfl) (by kernel_rfl) (by kernel_rfl) (by kernel_rfl) (by kernel_rfl) (po_then (po_x (po_x (po_x po_body)))) (Wp.of hp_150 [0, 1] rfl) (y_val (fun w_ hW_ => e_fieldAddr (tm rfl rfl) Try.runUnderlying33 rfl Try.sizeOf2 rfl rfl)) ?_
                  refine w_take (m' := 1055) (v := .int .i64 ((gi a0 x_9.2).Loc)) 2 rfl rfl (by kernel_rfl) (by kernel_rfl) (by kernel_rfl) (by kernel_rfl) (by kernel_rfl) (by kernel_rfl) (by kernel_rfl) (po_then (po_x (po_x (po_x po_body)))) (Wp.of hp_150 [0, 1] rfl) (y_val (fun w_ hW_ => e_load1 (tm rfl rfl) Try.isAgg3 (cell_atL (hW_.get (i := 1) (j := 0) rfl rfl) rfl))) ?_
                  refine w_take (m' := 1087) (v := .int .i64 ((gi a0 x_9.2).Pair)) 5 rfl rfl (by kernel_rfl) (by kernel_rfl) (by kernel_rfl) (by kernel_rfl) (by kernel_rfl) (by kernel_rfl) (by kernel_rfl) (po_then (po_x (po_x (po_x po_body)))) (Wp.of hp_150 [0, 1] rfl) (y_val (fun w_ hW_ => e_load1 (tm rfl rfl) Try.isAgg3 (cell_atL (hW_.get (i := 1) (j := 0) rfl rfl) rfl))) ?_
                  refine w_take (m' := 1151) (v := .int .i64 (wrap64 (((gi a0 x_9.2).Pair) - 1))) 6 rfl rfl (by kernel_rfl) (by kernel_rfl) (by kernel_rfl) (by kernel_rfl) (by kernel_rfl) (by kernel_rfl) (by kernel_rfl) (po_then (po_x (po_x (po_x po_body)))) (Wp.of hp_150 [0, 1] rfl) (y_val (fun w_ hW_ => e_bin (tm rfl rfl) rfl (r_sub (wrap_i64 _)))) ?_
                  obtain ⟨g_151, H⟩ := grd H
                  obtain ⟨a_156, cs_153, pl_154, q_155, rp_152⟩ := rd_idx q_3 g_151
                  obtain rfl : cs_153 = [.int .i64 ((gi a0 (wrap64 (((gi a0 x_9.2).Pair) - 1))).Kind), .int .i64 ((gi a0 (wrap64 (((gi a0 x_9.2).Pair) - 1))).Loc), .int .i64 ((gi a0 (wrap64 (((gi a0 x_9.2).Pair) - 1))).Val), .int .i64 ((gi a0 (wrap64 (((gi a0 x_9.2).Pair) - 1))).Pair), .int .u64 ((gi a0 (wrap64 (((gi a0 x_9.2).Pair) - 1))).Addr), .int .u64 ((gi a0 (wrap64 (((gi a0 x_9.2).Pair) - 1))).Data), .int .u64 ((gi a0 (wrap64 (((gi a0 x_9.2).Pair) - 1))).Ctrl), .int .u64 ((gi a0 (wrap64 (((gi a0 x_9.2).Pair) - 1))).Fenced)] := rp_152
                  refine w_take (m' := 1279) (v := .pointer (some a_156)) 7 rfl rfl (by kernel_rfl) (by kernel_rfl) (by kernel_rfl) (by kernel_rfl) (by kernel_rfl) (by kernel_rfl) (by kernel_rfl) (po_then (po_x (po_x (po_x po_body)))) (Wp.of hp_150 [0, 1] rfl) (y_val (fun w_ hW_ => e_idx (tm rfl rfl) (tm rfl rfl) Try.runUnderlying26 Try.sizeOf33 pl_154 g_151)) ?_
                  refine w_take (m' := 1535) (v := .pointer (some (a_156.add 2))) 8 rfl rfl (by kernel_rfl) (by kernel_rfl) (by kernel_rfl) (by kernel_rfl) (by kernel_rfl) (by kernel_rfl) (by kernel_rfl) (po_then (po_x (po_x (po_x po_body)))) (Wp.of hp_150 [0, 1] rfl) (y_val (fun w_ hW_ => e_fieldAddr (tm rfl rfl) Try.runUnderlying33 rfl Try.sizeOf2 rfl rfl)) ?_
                  refine w_take (m' := 2047) (v := .int .i64 ((gi a0 (wrap64 (((gi a0 x_9.2).Pair) - 1))).Val)) 9 rfl rfl (by kernel_rfl) (by kernel_rfl) (by kernel_rfl) (by kernel_rfl) (by kernel_rfl) (by kernel_rfl) (by kernel_rfl) (po_then (po_x (po_x (po_x po_body)))) (Wp.of hp_150 [0, 1] rfl) (y_val (fun w_ hW_ => e_load1 (tm rfl rfl) Try.isAgg2 (cells_one (hW_.ep q_155) rfl))) ?_
                  refine w_take (m' := 4095) (v := .int .i64 ((gi a0 x_9.2).Val)) 11 rfl rfl (by kernel_rfl) (by kernel_rfl) (by kernel_rfl) (by kernel_rfl) (by kernel_rfl) (by kernel_rfl) (by kernel_rfl) (po_then (po_x (po_x (po_x po_body)))) (Wp.of hp_150 [0, 1] rfl) (y_val (fun w_ hW_ => e_load1 (tm rfl rfl) Try.isAgg2 (cell_atL (hW_.get (i := 1) (j := 0) rfl rfl) rfl))) ?_
                  refine w_take (m' := 8191) (v := .agg #[.int .i64 5, .int .i64 ((gi a0 x_9.2).Loc), .int .i64 ((gi a0 (wrap64 (((gi a0 x_9.2).Pair) - 1))).Val), .int .i64 ((gi a0 x_9.2).Val)]) 12 rfl rfl (by kernel_rfl) (by kernel_rfl) (by kernel_rfl) (by kernel_rfl) (by kernel_rfl) (by kernel_rfl) (by kernel_rfl) (po_then (po_x (po_x (po_x po_body)))) (Wp.of hp_150 [0, 1] rfl) (y_val (fun w_ hW_ => e_build (vs := [(0, .int .i64 5), (1, .int .i64 ((gi a0 x_9.2).Loc)), (2, .int .i64 ((gi a0 (wrap64 (((gi a0 x_9.2).Pair) - 1))).Val)), (3, .int .i64 ((gi a0 x_9.2).Val))]) (cs := [.int .i64 5, .int .i64 ((gi a0 x_9.2).Loc), .int .i64 ((gi a0 (wrap64 (((gi a0 x_9.2).Pair) - 1))).Val), .int .i64 ((gi a0 x_9.2).Val)]) (.cons rfl (.cons (tm rfl rfl) (.cons (tm rfl rfl) (.cons (tm rfl rfl) .nil)))) (by kernel_rfl))) ?_
                  refine w_one (m' := 16383) 13 rfl (by kernel_rfl) (by kernel_rfl) ?_
                  refine s_buildSlice (zv := .agg #[.int .i64 0, .int .i64 0, .int .i64 0, .int .i64 0]) (E := api_Act_E) (F := no) (wf := wz) (xs := ([(⟨5, (gi a0 x_9.2).Loc, (gi a0 (wrap64 (((gi a0 x_9.2).Pair) - 1))).Val, (gi a0 x_9.2).Val⟩ : api_Act)] : List api_Act)) (cs := [.int .i64 5, .int .i64 ((gi a0 x_9.2).Loc), .int .i64 ((gi a0 (wrap64 (((gi a0 x_9.2).Pair) - 1))).Val), .int .i64 ((gi a0 x_9.2).Val)]) (vs := [(0, .agg #[.int .i64 5, .int .i64 ((gi a0 x_9.2).Loc), .int .i64 ((gi a0 (wrap64 (((gi a0 x_9.2).Pair) - 1))).Val), .int .i64 ((gi a0 x_9.2).Val)])]) hp_150 (.cons (tm rfl rfl) .nil) Try.runUnderlying39 Try.sizeOf77 (by intro w_; kernel_rfl) rfl rfl rfl (Reps.cat.2 rfl) (by kernel_rfl) rfl (fun A_157 c_158 w_159 X_160 hp_161 O_162 => ?_)
                  refine k_nil ?_
                  refine ⟨(Wp.of hp_161 [0, 1] rfl), ?_⟩
                  refine w_one (m' := 32767) 14 rfl (by kernel_rfl) (by kernel_rfl) ?_
                  obtain ⟨g_163, H⟩ := grd H
                  refine s_append (E := api_Act_E) (F := no) (wf := wz) (xs := x_9.1) (ys := ([(⟨5, (gi a0 x_9.2).Loc, (gi a0 (wrap64 (((gi a0 x_9.2).Pair) - 1))).Val, (gi a0 x_9.2).Val⟩ : api_Act)] : List api_Act)) (r := 0) hp_161 (tm rfl rfl) (tm rfl rfl) Try.underlying39 rfl rfl rfl rfl rfl rfl rfl O_18 (Own.src O_162 hp_161 (i := 2) rfl) g_163 rfl (fun A_164 c_165 w_166 X_167 hp_168 O_169 => ?_)
                  refine k_nil ?_
                  refine ⟨(Wp.of hp_168 [1] rfl), ?_⟩
                  refine w_take (m' := 65535) (v := .slice A_164 (x_9.1 ++ ([(⟨5, (gi a0 x_9.2).Loc, (gi a0 (wrap64 (((gi a0 x_9.2).Pair) - 1))).Val, (gi a0 x_9.2).Val⟩ : api_Act)] : List api_Act)).length c_165) 15 rfl rfl (by kernel_rfl) (by kernel_rfl) (by kernel_rfl) (by kernel_rfl) (by kernel_rfl) (by kernel_rfl) (by kernel_rfl) (po_then (po_x (po_x (po_x po_body)))) (Wp.of hp_168 [1] rfl) (y_val (fun w_ hW_ => e_assign (tm rfl rfl))) ?_
                  refine w_done (by kernel_rfl) ?_
                  obtain rfl := Option.some.inj H
                  exact ⟨_, A_164, c_165, X_167, seenF ⟨rfl, rfl, rfl, rfl, trivial⟩, hp_168.pick [0] (by decide) rfl, O_169⟩
              have H := iff_ h_148 H
              refine k_seq ?_
              refine k_region ?_
              refine sv (v := .pointer (some ⟨b_29, 0, none⟩)) rfl rfl rfl (e_fieldAddr (tm rfl rfl) Try.runUnderlying33 rfl Try.sizeOf3 rfl rfl) ?_
              refine sv (v := .int .i64 ((gi a0 x_9.2).Kind)) rfl rfl rfl (e_load1 (tm rfl rfl) Try.isAgg3 (cell_atL (hp_145.get (i := 1) (j := 0) rfl rfl) rfl)) ?_
              refine sv (v := .bool (decide (((gi a0 x_9.2).Kind) = 2))) rfl rfl rfl (e_bin (tm rfl rfl) rfl (r_eql rfl)) ?_
              refine sv (v := .bool (decide (((gi a0 x_9.2).Kind) = 2))) rfl rfl rfl (e_assign (tm rfl rfl)) ?_
              refine k_nil ?_
              refine k_if (tm rfl rfl) (fun h_170 => ?_) (fun h_170 => ?_)
              · have H := ift h_170 H
                refine k_region ?_
                refine sv (v := .slice A_16 x_9.1.length c_19) rfl rfl rfl (e_move (tm rfl rfl)) ?_
                refine sv (v := .int .i64 o_34) rfl rfl rfl (e_move (tm rfl rfl)) ?_
                refine sv (v := .pointer (some ⟨b_29, 1, none⟩)) rfl rfl rfl (e_fieldAddr (tm rfl rfl) Try.runUnderlying33 rfl Try.sizeOf3 rfl rfl) ?_
                refine sv (v := .int .i64 ((gi a0 x_9.2).Loc)) rfl rfl rfl (e_load1 (tm rfl rfl) Try.isAgg3 (cell_atL (hp_145.get (i := 1) (j := 0) rfl rfl) rfl)) ?_
                refine sv (v := .pointer (some ⟨b_29, 2, none⟩)) rfl rfl rfl (e_fieldAddr (tm rfl rfl) Try.runUnderlying33 rfl Try.sizeOf2 rfl rfl) ?_
                refine sv (v := .int .i64 ((gi a0 x_9.2).Val)) rfl rfl rfl (e_load1 (tm rfl rfl) Try.isAgg2 (cell_atL (hp_145.get (i := 1) (j := 0) rfl rfl) rfl)) ?_
                refine sv (v := .agg #[.int .i64 o_34, .int .i64 ((gi a0 x_9.2).Loc), .int .i64 0, .int .i64 ((gi a0 x_9.2).Val)]) rfl rfl rfl (e_build (vs := [(0, .int .i64 o_34), (1, .int .i64 ((gi a0 x_9.2).Loc)), (3, .int .i64 ((gi a0 x_9.2).Val))]) (cs := [.int .i64 o_34, .int .i64 ((gi a0 x_9.2).Loc), .int .i64 0, .int .i64 ((gi a0 x_9.2).Val)]) (.cons (tm rfl rfl) (.cons (tm rfl rfl) (.cons (tm rfl rfl) .nil))) (by kernel_rfl)) ?_
                refine s_buildSlice (zv := .agg #[.int .i64 0, .int .i64 0, .int .i64 0, .int .i64 0]) (E := api_Act_E) (F := no) (wf := wz) (xs := ([(⟨o_34, (gi a0 x_9.2).Loc, 0, (gi a0 x_9.2).Val⟩ : api_Act)] : List api_Act)) (cs := [.int .i64 o_34, .int .i64 ((gi a0 x_9.2).Loc), .int .i64 0, .int .i64 ((gi a0 x_9.2).Val)]) (vs := [(0, .agg #[.int .i64 o_34, .int .i64 ((gi a0 x_9.2).Loc), .int .i64 0, .int .i64 ((gi a0 x_9.2).Val)])]) hp_145 (.cons (tm rfl rfl) .nil) Try.runUnderlying39 Try.sizeOf77 (by intro w_; kernel_rfl) rfl rfl rfl (Reps.cat.2 rfl) (by kernel_rfl) rfl (fun A_171 c_172 w_173 X_174 hp_175 O_176 => ?_)
                obtain ⟨g_177, H⟩ := grd H
                refine s_append (E := api_Act_E) (F := no) (wf := wz) (xs := x_9.1) (ys := ([(⟨o_34, (gi a0 x_9.2).Loc, 0, (gi a0 x_9.2).Val⟩ : api_Act)] : List api_Act)) (r := 0) hp_175 (tm rfl rfl) (tm rfl rfl) Try.underlying39 rfl rfl rfl rfl rfl rfl rfl O_18 (Own.src O_176 hp_175 (i := 2) rfl) g_177 rfl (fun A_178 c_179 w_180 X_181 hp_182 O_183 => ?_)
                refine sv (v := .slice A_178 (x_9.1 ++ ([(⟨o_34, (gi a0 x_9.2).Loc, 0, (gi a0 x_9.2).Val⟩ : api_Act)] : List api_Act)).length c_179) rfl rfl rfl (e_assign (tm rfl rfl)) ?_
                refine k_nil ?_
                obtain rfl := Option.some.inj H
                exact ⟨_, A_178, c_179, X_181, seenF ⟨rfl, rfl, rfl, rfl, trivial⟩, hp_182.pick [0] (by decide) rfl, O_183⟩
              have H := iff_ h_170 H
              refine k_skip ?_
              obtain rfl := Option.some.inj H
              exact ⟨_, A_16, c_19, X_17, seenF ⟨rfl, rfl, rfl, rfl, trivial⟩, hp_145.pick [0] (by decide) rfl, O_18⟩
          clear H
          rintro a w' ⟨σ_185, A_189, c_192, X_190, rfl, hp_186, O_191⟩
          have H := G_22
          refine k_region ?_
          refine sv (v := .int .i64 x_9.2) rfl rfl rfl (e_move (tm rfl rfl)) ?_
          refine sv (v := .int .i64 (wrap64 (x_9.2 + 1))) rfl rfl rfl (e_bin (tm rfl rfl) rfl (r_add (wrap_i64 _))) ?_
          refine sv (v := .int .i64 (wrap64 (x_9.2 + 1))) rfl rfl rfl (e_assign (tm rfl rfl)) ?_
          refine k_nil ?_
          obtain rfl := Option.some.inj H
          exact ⟨_, rfl, ⟨_, A_189, c_192, X_190, seenF ⟨rfl, rfl, rfl, rfl, trivial⟩, hp_186, O_191⟩⟩
      have H := iff_ h_20 H
      refine k_exit ?_
      refine q_here ?_
      obtain ⟨v_, H', hv_⟩ := mapSome H
      have hv_ := hz_10 _ hv_
      subst hv_
      have H := H'
      clear H'
      obtain rfl := Option.some.inj H
      exact ⟨_, A_16, c_19, X_17, seenF ⟨rfl, trivial⟩, hp_13, O_18⟩
  clear H
  rintro a w' ⟨σ_194, A_198, c_201, X_199, rfl, hp_195, O_200⟩
  have H := G_8
  refine k_seq ?_
  refine k_region ?_
  refine sv (v := .slice A_198 o_7.length c_201) rfl rfl rfl (e_move (tm rfl rfl)) ?_
  refine sv (v := .slice A_198 o_7.length c_201) rfl rfl rfl (e_assign (tm rfl rfl)) ?_
  refine k_nil ?_
  refine k_ret ?_
  obtain rfl := Option.some.inj H
  exact k_end rfl (.tmp rfl rfl .nil) rfl ⟨A_198, c_201, X_199, rfl, O_200, (hp_195).aft⟩

end Go.Proofs.Ytcnchjlomcafeaa.W

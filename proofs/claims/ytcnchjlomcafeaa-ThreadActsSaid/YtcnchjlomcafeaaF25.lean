/- Functions of the program as plain Lean functions, and that the calls do what they say: written by w2.py. -/
import Derived.Test.YtcnchjlomcafeaaDefer
import Derived.Test.YtcnchjlomcafeaaTy
import Derived.Test.YtcnchjlomcafeaaF24
set_option linter.unusedVariables false
set_option linter.unusedSimpArgs false
set_option linter.unusedSectionVars false
namespace Go.Proofs.Ytcnchjlomcafeaa.W
open Go Go.RowKit Go.Proofs.Ytcnchjlomcafeaa.B
attribute [local irreducible] Go.wpList Go.Code.wp Go.Region.wanted Go.yielded
/-! ### selvage/thread.Acts: function 14 -/
def thread_Acts.l0 (a0 : List api_Event) (x_17 : (List (Int × Int)) × Int) : Option (((List (Int × Int)) × Int) ⊕ (List (Int × Int))) :=
  if (decide (x_17.2 < (a0.length : Int))) = true then ((if 0 ≤ x_17.2 ∧ x_17.2 < (a0.length : Int) then ((thread_Acts_1.m x_17.2 a0).bind fun r_43 => (if r_43 = true then (some (aset x_17.1 (wrap64 (((gi a0 x_17.2).Pair) - 1)) (wrap64 (((aget x_17.1 (wrap64 (((gi a0 x_17.2).Pair) - 1))).getD 0) + 1)))) else (some x_17.1))) else none : Option (List (Int × Int))).bind fun o_28 => some (Sum.inl (o_28, wrap64 (x_17.2 + 1)))) else ((some x_17.1).map Sum.inr)
def thread_Acts.l1 (a0 : List api_Event) (a1 : List api_Loc) (o_15 : List (Int × Int)) (x_70 : (List api_Act) × Int) : Option (((List api_Act) × Int) ⊕ (List api_Act)) :=
  if (decide (x_70.2 < (a0.length : Int))) = true then ((if 0 ≤ x_70.2 ∧ x_70.2 < (a0.length : Int) then ((if ((decide (((gi a0 x_70.2).Loc) ≥ 0)) && (decide (((gi a0 x_70.2).Loc) < (a1.length : Int)))) = true then (if 0 ≤ ((gi a0 x_70.2).Loc) ∧ ((gi a0 x_70.2).Loc) < (a1.length : Int) then (some ((gi a1 ((gi a0 x_70.2).Loc)).Atomic)) else none) else (some false) : Option Bool).bind fun o_95 => if (decide (((gi a0 x_70.2).Kind) = 6)) = true then (if (x_70.1.length + ([(⟨6, 0, 0, (gi a0 x_70.2).Val⟩ : api_Act)] : List api_Act).length) * 32 ≤ 140737488355328 then (some (x_70.1 ++ ([(⟨6, 0, 0, (gi a0 x_70.2).Val⟩ : api_Act)] : List api_Act))) else none) else ((thread_Acts_1.m x_70.2 a0).bind fun r_130 => (if r_130 = true then (if 0 ≤ (wrap64 (((gi a0 x_70.2).Pair) - 1)) ∧ (wrap64 (((gi a0 x_70.2).Pair) - 1)) < (a0.length : Int) then (if (x_70.1.length + ([(⟨5, (gi a0 x_70.2).Loc, (gi a0 (wrap64 (((gi a0 x_70.2).Pair) - 1))).Val, (gi a0 x_70.2).Val⟩ : api_Act)] : List api_Act).length) * 32 ≤ 140737488355328 then (some (x_70.1 ++ ([(⟨5, (gi a0 x_70.2).Loc, (gi a0 (wrap64 (((gi a0 x_70.2).Pair) - 1))).Val, (gi a0 x_70.2).Val⟩ : api_Act)] : List api_Act))) else none) else none) else (if (((decide (((gi a0 x_70.2).Kind) = 1)) && (decide (((aget o_15 x_70.2).getD 0) = 0))) && o_95) = true then (if (x_70.1.length + ([(⟨3, (gi a0 x_70.2).Loc, (gi a0 x_70.2).Val, 0⟩ : api_Act)] : List api_Act).length) * 32 ≤ 140737488355328 then (some (x_70.1 ++ ([(⟨3, (gi a0 x_70.2).Loc, (gi a0 x_70.2).Val, 0⟩ : api_Act)] : List api_Act))) else none) else (if ((decide (((gi a0 x_70.2).Kind) = 1)) && (decide (((aget o_15 x_70.2).getD 0) = 0))) = true then (if (x_70.1.length + ([(⟨1, (gi a0 x_70.2).Loc, (gi a0 x_70.2).Val, 0⟩ : api_Act)] : List api_Act).length) * 32 ≤ 140737488355328 then (some (x_70.1 ++ ([(⟨1, (gi a0 x_70.2).Loc, (gi a0 x_70.2).Val, 0⟩ : api_Act)] : List api_Act))) else none) else (if ((decide (((gi a0 x_70.2).Kind) = 2)) && o_95) = true then (if (x_70.1.length + ([(⟨4, (gi a0 x_70.2).Loc, 0, (gi a0 x_70.2).Val⟩ : api_Act)] : List api_Act).length) * 32 ≤ 140737488355328 then (some (x_70.1 ++ ([(⟨4, (gi a0 x_70.2).Loc, 0, (gi a0 x_70.2).Val⟩ : api_Act)] : List api_Act))) else none) else (if (decide (((gi a0 x_70.2).Kind) = 2)) = true then (if (x_70.1.length + ([(⟨2, (gi a0 x_70.2).Loc, 0, (gi a0 x_70.2).Val⟩ : api_Act)] : List api_Act).length) * 32 ≤ 140737488355328 then (some (x_70.1 ++ ([(⟨2, (gi a0 x_70.2).Loc, 0, (gi a0 x_70.2).Val⟩ : api_Act)] : List api_Act))) else none) else (some x_70.1)))))))) else none : Option (List api_Act)).bind fun o_82 => some (Sum.inl (o_82, wrap64 (x_70.2 + 1)))) else ((some x_70.1).map Sum.inr)
def thread_Acts.m (a0 : List api_Event) (a1 : List api_Loc) : Option (List api_Act) :=
  (loop (thread_Acts.l0 a0) (([] : List (Int × Int)), 0) : Option (List (Int × Int))).bind fun o_15 => (loop (thread_Acts.l1 a0 a1 o_15) (([] : List api_Act), 0) : Option (List api_Act)).bind fun o_68 => some o_68
set_option maxHeartbeats 4000000 in
set_option maxRecDepth 100000 in
theorem thread_Acts.calls (a0 : List api_Event) (A_1 : Option Addr) (c_2 : Nat) (a1 : List api_Loc) (A_4 : Option Addr) (c_5 : Nat) (r : List api_Act) (w : World) (F : Nat → Prop) (hF : ∀ k, F k → Off w [] k) (q_3 : RdS api_Event_E F w A_1 c_2 a0) (q_6 : RdS api_Loc_E F w A_4 c_5 a1) (H : thread_Acts.m a0 a1 = some r) :
    Ret Try.prog 14 [.slice A_1 a0.length c_2, .slice A_4 a1.length c_5] w fun v w' => ∃ (A_1233 : Option Addr) (c_1234 : Nat) (X_1236 : Rsc), v = .slice A_1233 r.length c_1234 ∧ Own api_Act_E no wz 77 A_1233 c_1234 r X_1236 ∧ Aft w w' [] [X_1236] := by
  unfold thread_Acts.m at H
  have hp0 := Hp.startR (R := []) (Have.nil w) hF
  have ep0 := Ep.refl F [] w
  refine enter (L := [(0, .slice A_1 a0.length c_2), (1, .slice A_4 a1.length c_5)]) Try.func14 rfl Try.ntmps14 rfl rfl ?_
  refine k_seq ?_
  refine k_region ?_
  refine s_box (l := [.slice A_1 a0.length c_2]) hp0 (tm rfl rfl) rfl rfl (fun b_7 w_8 hp_9 => ?_)
  refine sv (v := .slice none 0 0) rfl rfl rfl (e_assign rfl) ?_
  refine k_nil ?_
  refine k_seq ?_
  refine k_region ?_
  refine s_makeMap .i64 (mI .i64) hp_9 rfl (fun A_10 w_11 X_12 hp_13 O_14 => ?_)
  refine sv (v := .map (some A_10)) rfl rfl rfl (e_assign (tm rfl rfl)) ?_
  refine k_nil ?_
  refine k_seq ?_
  refine k_region ?_
  refine sv (v := .func (.func 27) #[] #[.pointer (some ⟨b_7, 0, none⟩)]) rfl rfl rfl (e_makeFunc .nil (.cons (tm rfl rfl) .nil)) ?_
  refine sv (v := .func (.func 27) #[] #[.pointer (some ⟨b_7, 0, none⟩)]) rfl rfl rfl (e_assign (tm rfl rfl)) ?_
  refine k_nil ?_
  refine k_seq ?_
  refine k_seq ?_
  refine k_region ?_
  refine sv (v := .slice A_1 a0.length c_2) rfl rfl rfl (e_load1 (tm rfl rfl) Try.isAgg26 (cell_atL (hp_13.get (i := 0) (j := 0) rfl rfl) rfl)) ?_
  refine sv (v := .int .i64 (a0.length : Int)) rfl rfl rfl (e_builtin (.cons (tm rfl rfl) .nil) (r_lens Try.runUnderlying26)) ?_
  refine sv (v := .int .i64 0) rfl rfl rfl (e_move rfl) ?_
  refine k_nil ?_
  obtain ⟨o_15, H, G_16⟩ := bindSome H
  refine k_cut (fun a w' => ∃ (σ_233 : Nat → Value) (A_237 : Option Nat) (X_238 : Rsc), a = st 154 [(1, .slice A_4 a1.length c_5), (2, .pointer (some ⟨b_7, 0, none⟩)), (5, .map A_237), (6, .func (.func 27) #[] #[.pointer (some ⟨b_7, 0, none⟩)])] σ_233 [] ∧ Hp (On []) F w w w' [[(b_7, .cells #[.slice A_1 a0.length c_2] 26 (0, 0))], X_238] ∧ OwnM .i64 (mI .i64) A_237 o_15 X_238) ?_ ?_
  · as_aux_lemma =>
      refine k_block ?_
      refine k_lp (fun (x_17 : (List (Int × Int)) × Int) a w' => ∃ (σ_61 : Nat → Value) (A_65 : Option Nat) (X_66 : Rsc), a = st 154 [(1, .slice A_4 a1.length c_5), (2, .pointer (some ⟨b_7, 0, none⟩)), (5, .map A_65), (6, .func (.func 27) #[] #[.pointer (some ⟨b_7, 0, none⟩)]), (15, .slice A_1 a0.length c_2), (16, .int .i64 (a0.length : Int)), (17, .int .i64 x_17.2)] σ_61 [] ∧ Hp (On []) F w w w' [[(b_7, .cells #[.slice A_1 a0.length c_2] 26 (0, 0))], X_66] ∧ OwnM .i64 (mI .i64) A_65 x_17.1 X_66) H ⟨_, (some A_10), X_12, seenF ⟨rfl, rfl, rfl, rfl, rfl, rfl, rfl, trivial⟩, hp_13, O_14⟩ ?_
      clear H
      rintro x_17 a w' z_ ⟨σ_20, A_24, X_25, rfl, hp_21, O_26⟩ H hz_18
      unfold thread_Acts.l0 at H
      refine k_seq ?_
      refine k_region ?_
      refine sv (v := .bool (decide (x_17.2 < (a0.length : Int)))) rfl rfl rfl (e_bin (tm rfl rfl) (tm rfl rfl) (r_lss rfl)) ?_
      refine k_nil ?_
      refine k_seq ?_
      refine k_if (tm rfl rfl) (fun h_27 => ?_) (fun h_27 => ?_)
      · as_aux_lemma =>
          have H := ift h_27 H
          refine k_skip ?_
          refine k_seq ?_
          obtain ⟨o_28, H, G_29⟩ := bindSome H
          refine k_cut (fun a w' => ∃ (σ_61 : Nat → Value) (A_65 : Option Nat) (X_66 : Rsc), a = st 154 [(1, .slice A_4 a1.length c_5), (2, .pointer (some ⟨b_7, 0, none⟩)), (5, .map A_65), (6, .func (.func 27) #[] #[.pointer (some ⟨b_7, 0, none⟩)]), (15, .slice A_1 a0.length c_2), (16, .int .i64 (a0.length : Int)), (17, .int .i64 x_17.2)] σ_61 [] ∧ Hp (On []) F w w w' [[(b_7, .cells #[.slice A_1 a0.length c_2] 26 (0, 0))], X_66] ∧ OwnM .i64 (mI .i64) A_65 o_28 X_66) ?_ ?_
          · as_aux_lemma =>
              refine k_block ?_
              refine k_seq ?_
              refine k_region ?_
              refine sv (v := .int .i64 x_17.2) rfl rfl rfl (e_move (tm rfl rfl)) ?_
              obtain ⟨g_30, H⟩ := grd H
              obtain ⟨a_35, cs_32, pl_33, q_34, rp_31⟩ := rd_idx q_3 g_30
              obtain rfl : cs_32 = [.int .i64 ((gi a0 x_17.2).Kind), .int .i64 ((gi a0 x_17.2).Loc), .int .i64 ((gi a0 x_17.2).Val), .int .i64 ((gi a0 x_17.2).Pair), .int .u64 ((gi a0 x_17.2).Addr), .int .u64 ((gi a0 x_17.2).Data), .int .u64 ((gi a0 x_17.2).Ctrl), .int .u64 ((gi a0 x_17.2).Fenced)] := rp_31
              refine sv (v := .pointer (some a_35)) rfl rfl rfl (e_idx (tm rfl rfl) (tm rfl rfl) Try.runUnderlying26 Try.sizeOf33 pl_33 g_30) ?_
              refine sv (v := .agg #[.int .i64 ((gi a0 x_17.2).Kind), .int .i64 ((gi a0 x_17.2).Loc), .int .i64 ((gi a0 x_17.2).Val), .int .i64 ((gi a0 x_17.2).Pair), .int .u64 ((gi a0 x_17.2).Addr), .int .u64 ((gi a0 x_17.2).Data), .int .u64 ((gi a0 x_17.2).Ctrl), .int .u64 ((gi a0 x_17.2).Fenced)]) rfl rfl rfl (e_loadA (tm rfl rfl) Try.isAgg33 Try.sizeOf33 rfl ((hp_21.ep q_34))) ?_
              refine s_alloc (zv := .agg #[.int .i64 0, .int .i64 0, .int .i64 0, .int .i64 0, .int .u64 0, .int .u64 0, .int .u64 0, .int .u64 0]) (l := [.int .i64 0, .int .i64 0, .int .i64 0, .int .i64 0, .int .u64 0, .int .u64 0, .int .u64 0, .int .u64 0]) hp_21 (by intro w_; kernel_rfl) rfl rfl (fun b_36 w_37 hp_38 => ?_)
              refine sv (v := .int .i64 x_17.2) rfl rfl rfl (e_assign (tm rfl rfl)) ?_
              refine s_store (i := 2) (j := 0) (vs := [.int .i64 ((gi a0 x_17.2).Kind), .int .i64 ((gi a0 x_17.2).Loc), .int .i64 ((gi a0 x_17.2).Val), .int .i64 ((gi a0 x_17.2).Pair), .int .u64 ((gi a0 x_17.2).Addr), .int .u64 ((gi a0 x_17.2).Data), .int .u64 ((gi a0 x_17.2).Ctrl), .int .u64 ((gi a0 x_17.2).Fenced)]) (l' := [.int .i64 ((gi a0 x_17.2).Kind), .int .i64 ((gi a0 x_17.2).Loc), .int .i64 ((gi a0 x_17.2).Val), .int .i64 ((gi a0 x_17.2).Pair), .int .u64 ((gi a0 x_17.2).Addr), .int .u64 ((gi a0 x_17.2).Data), .int .u64 ((gi a0 x_17.2).Ctrl), .int .u64 ((gi a0 x_17.2).Fenced)]) hp_38 (tm rfl rfl) (tm rfl rfl) rfl Try.sizeOf33 rfl rfl rfl rfl rfl rfl (fun w_39 hp_40 => ?_)
              refine k_nil ?_
              refine k_seq ?_
              refine k_region ?_
              refine sv (v := .func (.func 27) #[] #[.pointer (some ⟨b_7, 0, none⟩)]) rfl rfl rfl (e_move (tm rfl rfl)) ?_
              refine sv (v := .int .i64 x_17.2) rfl rfl rfl (e_move (tm rfl rfl)) ?_
              obtain ⟨r_43, hx_42, H⟩ := bindSome H
              refine s_callc (tm rfl rfl) (.cons (tm rfl rfl) .nil) Try.call27 rfl (thread_Acts_1.calls x_17.2 a0 b_7 A_1 c_2 r_43 _ _ (Hp.offCov hp_40 [[(b_7, .cells #[.slice A_1 a0.length c_2] 26 (0, 0))]] [X_25, [(b_36, .cells #[.int .i64 ((gi a0 x_17.2).Kind), .int .i64 ((gi a0 x_17.2).Loc), .int .i64 ((gi a0 x_17.2).Val), .int .i64 ((gi a0 x_17.2).Pair), .int .u64 ((gi a0 x_17.2).Addr), .int .u64 ((gi a0 x_17.2).Data), .int .u64 ((gi a0 x_17.2).Ctrl), .int .u64 ((gi a0 x_17.2).Fenced)] 33 (0, 0))]] rfl) (Hp.have1 hp_40 [[(b_7, .cells #[.slice A_1 a0.length c_2] 26 (0, 0))]] _ rfl) (RdS.pass q_3 hp_40) hx_42) rfl ?_
              rintro v_ w_44 ⟨rfl, af_47⟩
              have hp_45 := Hp.callA af_47 hp_40
              refine k_nil ?_
              refine k_if (tm rfl rfl) (fun h_48 => ?_) (fun h_48 => ?_)
              · have H := ift h_48 H
                refine k_region ?_
                refine sv (v := .map A_24) rfl rfl rfl (e_move (tm rfl rfl)) ?_
                refine sv (v := .pointer (some ⟨b_36, 3, none⟩)) rfl rfl rfl (e_fieldAddr (tm rfl rfl) Try.runUnderlying33 rfl Try.sizeOf3 rfl rfl) ?_
                refine sv (v := .int .i64 ((gi a0 x_17.2).Pair)) rfl rfl rfl (e_load1 (tm rfl rfl) Try.isAgg3 (cell_atL (hp_45.get (i := 2) (j := 0) rfl rfl) rfl)) ?_
                refine sv (v := .int .i64 (wrap64 (((gi a0 x_17.2).Pair) - 1))) rfl rfl rfl (e_bin (tm rfl rfl) rfl (r_sub (wrap_i64 _))) ?_
                refine sv (v := .int .i64 ((aget x_17.1 (wrap64 (((gi a0 x_17.2).Pair) - 1))).getD 0)) rfl rfl rfl (e_lookup (tm rfl rfl) (tm rfl rfl) Try.runUnderlying78 Try.underlying3 (by intro w_; kernel_rfl) (hp_45.ownm O_26 (i := 1) rfl) (mval _ _)) ?_
                refine sv (v := .int .i64 (wrap64 (((aget x_17.1 (wrap64 (((gi a0 x_17.2).Pair) - 1))).getD 0) + 1))) rfl rfl rfl (e_bin (tm rfl rfl) rfl (r_add (wrap_i64 _))) ?_
                refine s_mapUpdate (i := 1) (b := wrap64 (((aget x_17.1 (wrap64 (((gi a0 x_17.2).Pair) - 1))).getD 0) + 1)) hp_45 O_26 rfl (tm rfl rfl) (tm rfl rfl) (tm rfl rfl) Try.runUnderlying78 Try.underlying3 (fun w_49 X_50 hp_51 O_52 => ?_)
                refine k_nil ?_
                obtain rfl := Option.some.inj H
                exact ⟨_, A_24, X_50, seenF ⟨rfl, rfl, rfl, rfl, rfl, rfl, rfl, trivial⟩, hp_51.pick [0, 1] (by decide) rfl, O_52⟩
              have H := iff_ h_48 H
              refine k_skip ?_
              obtain rfl := Option.some.inj H
              exact ⟨_, A_24, X_25, seenF ⟨rfl, rfl, rfl, rfl, rfl, rfl, rfl, trivial⟩, hp_45.pick [0, 1] (by decide) rfl, O_26⟩
          clear H
          rintro a w' ⟨σ_53, A_57, X_58, rfl, hp_54, O_59⟩
          have H := G_29
          refine k_region ?_
          refine sv (v := .int .i64 (wrap64 (x_17.2 + 1))) rfl rfl rfl (e_bin (tm rfl rfl) rfl (r_add (wrap_i64 _))) ?_
          refine sv (v := .int .i64 (wrap64 (x_17.2 + 1))) rfl rfl rfl (e_move (tm rfl rfl)) ?_
          refine k_nil ?_
          obtain rfl := Option.some.inj H
          exact ⟨_, rfl, ⟨_, A_57, X_58, seenF ⟨rfl, rfl, rfl, rfl, rfl, rfl, rfl, trivial⟩, hp_54, O_59⟩⟩
      have H := iff_ h_27 H
      refine k_exit ?_
      refine q_here ?_
      obtain ⟨v_, H', hv_⟩ := mapSome H
      have hv_ := hz_18 _ hv_
      subst hv_
      have H := H'
      clear H'
      obtain rfl := Option.some.inj H
      exact ⟨_, A_24, X_25, seenF ⟨rfl, rfl, rfl, rfl, trivial⟩, hp_21, O_26⟩
  clear H
  rintro a w' ⟨σ_61, A_65, X_66, rfl, hp_62, O_67⟩
  have H := G_16
  refine k_seq ?_
  refine k_region ?_
  refine sv (v := .slice none 0 0) rfl rfl rfl (e_assign rfl) ?_
  refine k_nil ?_
  refine k_seq ?_
  refine k_seq ?_
  refine k_region ?_
  refine sv (v := .slice A_1 a0.length c_2) rfl rfl rfl (e_load1 (tm rfl rfl) Try.isAgg26 (cell_atL (hp_62.get (i := 0) (j := 0) rfl rfl) rfl)) ?_
  refine sv (v := .int .i64 (a0.length : Int)) rfl rfl rfl (e_builtin (.cons (tm rfl rfl) .nil) (r_lens Try.runUnderlying26)) ?_
  refine sv (v := .int .i64 0) rfl rfl rfl (e_move rfl) ?_
  refine k_nil ?_
  obtain ⟨o_68, H, G_69⟩ := bindSome H
  refine k_cut (fun a w' => ∃ (σ_232 : Nat → Value) (A_236 : Option Addr) (c_239 : Nat) (X_237 : Rsc), a = st 154 [(9, .slice A_236 o_68.length c_239)] σ_232 [] ∧ Hp (On []) F w w w' [X_237] ∧ Own api_Act_E no wz 77 A_236 c_239 o_68 X_237) ?_ ?_
  · as_aux_lemma =>
      refine k_block ?_
      refine k_lp (fun (x_70 : (List api_Act) × Int) a w' => ∃ (σ_223 : Nat → Value) (A_227 : Option Addr) (c_230 : Nat) (X_228 : Rsc), a = st 154 [(1, .slice A_4 a1.length c_5), (2, .pointer (some ⟨b_7, 0, none⟩)), (5, .map A_65), (6, .func (.func 27) #[] #[.pointer (some ⟨b_7, 0, none⟩)]), (9, .slice A_227 x_70.1.length c_230), (32, .slice A_1 a0.length c_2), (33, .int .i64 (a0.length : Int)), (34, .int .i64 x_70.2)] σ_223 [] ∧ Hp (On []) F w w w' [[(b_7, .cells #[.slice A_1 a0.length c_2] 26 (0, 0))], X_66, X_228] ∧ Own api_Act_E no wz 77 A_227 c_230 x_70.1 X_228) H ⟨_, none, 0, [], seenF ⟨rfl, rfl, rfl, rfl, rfl, rfl, rfl, rfl, trivial⟩, hp_62.pick [0, 1, 2] (by decide) rfl, Own.nil _ _ _ _⟩ ?_
      clear H
      rintro x_70 a w' z_ ⟨σ_73, A_77, c_80, X_78, rfl, hp_74, O_79⟩ H hz_71
      unfold thread_Acts.l1 at H
      refine k_seq ?_
      refine k_region ?_
      refine sv (v := .bool (decide (x_70.2 < (a0.length : Int)))) rfl rfl rfl (e_bin (tm rfl rfl) (tm rfl rfl) (r_lss rfl)) ?_
      refine k_nil ?_
      refine k_seq ?_
      refine k_if (tm rfl rfl) (fun h_81 => ?_) (fun h_81 => ?_)
      · as_aux_lemma =>
          have H := ift h_81 H
          refine k_skip ?_
          refine k_seq ?_
          obtain ⟨o_82, H, G_83⟩ := bindSome H
          refine k_cut (fun a w' => ∃ (σ_223 : Nat → Value) (A_227 : Option Addr) (c_230 : Nat) (X_228 : Rsc), a = st 154 [(1, .slice A_4 a1.length c_5), (2, .pointer (some ⟨b_7, 0, none⟩)), (5, .map A_65), (6, .func (.func 27) #[] #[.pointer (some ⟨b_7, 0, none⟩)]), (9, .slice A_227 o_82.length c_230), (32, .slice A_1 a0.length c_2), (33, .int .i64 (a0.length : Int)), (34, .int .i64 x_70.2)] σ_223 [] ∧ Hp (On []) F w w w' [[(b_7, .cells #[.slice A_1 a0.length c_2] 26 (0, 0))], X_66, X_228] ∧ Own api_Act_E no wz 77 A_227 c_230 o_82 X_228) ?_ ?_
          · as_aux_lemma =>
              refine k_block ?_
              refine k_seq ?_
              refine k_region ?_
              refine sv (v := .int .i64 x_70.2) rfl rfl rfl (e_move (tm rfl rfl)) ?_
              obtain ⟨g_84, H⟩ := grd H
              obtain ⟨a_89, cs_86, pl_87, q_88, rp_85⟩ := rd_idx q_3 g_84
              obtain rfl : cs_86 = [.int .i64 ((gi a0 x_70.2).Kind), .int .i64 ((gi a0 x_70.2).Loc), .int .i64 ((gi a0 x_70.2).Val), .int .i64 ((gi a0 x_70.2).Pair), .int .u64 ((gi a0 x_70.2).Addr), .int .u64 ((gi a0 x_70.2).Data), .int .u64 ((gi a0 x_70.2).Ctrl), .int .u64 ((gi a0 x_70.2).Fenced)] := rp_85
              refine sv (v := .pointer (some a_89)) rfl rfl rfl (e_idx (tm rfl rfl) (tm rfl rfl) Try.runUnderlying26 Try.sizeOf33 pl_87 g_84) ?_
              refine sv (v := .agg #[.int .i64 ((gi a0 x_70.2).Kind), .int .i64 ((gi a0 x_70.2).Loc), .int .i64 ((gi a0 x_70.2).Val), .int .i64 ((gi a0 x_70.2).Pair), .int .u64 ((gi a0 x_70.2).Addr), .int .u64 ((gi a0 x_70.2).Data), .int .u64 ((gi a0 x_70.2).Ctrl), .int .u64 ((gi a0 x_70.2).Fenced)]) rfl rfl rfl (e_loadA (tm rfl rfl) Try.isAgg33 Try.sizeOf33 rfl ((hp_74.ep q_88))) ?_
              refine s_alloc (zv := .agg #[.int .i64 0, .int .i64 0, .int .i64 0, .int .i64 0, .int .u64 0, .int .u64 0, .int .u64 0, .int .u64 0]) (l := [.int .i64 0, .int .i64 0, .int .i64 0, .int .i64 0, .int .u64 0, .int .u64 0, .int .u64 0, .int .u64 0]) hp_74 (by intro w_; kernel_rfl) rfl rfl (fun b_90 w_91 hp_92 => ?_)
              refine sv (v := .int .i64 x_70.2) rfl rfl rfl (e_assign (tm rfl rfl)) ?_
              refine s_store (i := 3) (j := 0) (vs := [.int .i64 ((gi a0 x_70.2).Kind), .int .i64 ((gi a0 x_70.2).Loc), .int .i64 ((gi a0 x_70.2).Val), .int .i64 ((gi a0 x_70.2).Pair), .int .u64 ((gi a0 x_70.2).Addr), .int .u64 ((gi a0 x_70.2).Data), .int .u64 ((gi a0 x_70.2).Ctrl), .int .u64 ((gi a0 x_70.2).Fenced)]) (l' := [.int .i64 ((gi a0 x_70.2).Kind), .int .i64 ((gi a0 x_70.2).Loc), .int .i64 ((gi a0 x_70.2).Val), .int .i64 ((gi a0 x_70.2).Pair), .int .u64 ((gi a0 x_70.2).Addr), .int .u64 ((gi a0 x_70.2).Data), .int .u64 ((gi a0 x_70.2).Ctrl), .int .u64 ((gi a0 x_70.2).Fenced)]) hp_92 (tm rfl rfl) (tm rfl rfl) rfl Try.sizeOf33 rfl rfl rfl rfl rfl rfl (fun w_93 hp_94 => ?_)
              refine k_nil ?_
              refine k_seq ?_
              obtain ⟨o_95, H, G_96⟩ := bindSome H
              refine k_cut (fun a w' => ∃ (σ_214 : Nat → Value), a = st 154 [(1, .slice A_4 a1.length c_5), (2, .pointer (some ⟨b_7, 0, none⟩)), (5, .map A_65), (6, .func (.func 27) #[] #[.pointer (some ⟨b_7, 0, none⟩)]), (9, .slice A_77 x_70.1.length c_80), (10, .int .i64 x_70.2), (11, .pointer (some ⟨b_90, 0, none⟩)), (12, .bool o_95), (32, .slice A_1 a0.length c_2), (33, .int .i64 (a0.length : Int)), (34, .int .i64 x_70.2)] σ_214 [] ∧ Hp (On []) F w w w' [[(b_7, .cells #[.slice A_1 a0.length c_2] 26 (0, 0))], X_66, X_78, [(b_90, .cells #[.int .i64 ((gi a0 x_70.2).Kind), .int .i64 ((gi a0 x_70.2).Loc), .int .i64 ((gi a0 x_70.2).Val), .int .i64 ((gi a0 x_70.2).Pair), .int .u64 ((gi a0 x_70.2).Addr), .int .u64 ((gi a0 x_70.2).Data), .int .u64 ((gi a0 x_70.2).Ctrl), .int .u64 ((gi a0 x_70.2).Fenced)] 33 (0, 0))]]) ?_ ?_
              · as_aux_lemma =>
                  refine k_region ?_
                  refine sv (v := .pointer (some ⟨b_90, 1, none⟩)) rfl rfl rfl (e_fieldAddr (tm rfl rfl) Try.runUnderlying33 rfl Try.sizeOf3 rfl rfl) ?_
                  refine sv (v := .int .i64 ((gi a0 x_70.2).Loc)) rfl rfl rfl (e_load1 (tm rfl rfl) Try.isAgg3 (cell_atL (hp_94.get (i := 3) (j := 0) rfl rfl) rfl)) ?_
                  refine sv (v := .bool (decide (((gi a0 x_70.2).Loc) ≥ 0))) rfl rfl rfl (e_bin (tm rfl rfl) rfl (r_geq rfl)) ?_
                  refine sv (v := .bool (decide (((gi a0 x_70.2).Loc) ≥ 0))) rfl rfl rfl (e_move (tm rfl rfl)) ?_
                  refine s_gp (v := .pointer (some ⟨b_90, 1, none⟩)) rfl rfl rfl (beq_t _) (fun g_ => e_fieldAddr (tm rfl rfl) Try.runUnderlying33 rfl Try.sizeOf3 rfl rfl) rfl ?_
                  refine s_gp (v := .int .i64 ((gi a0 x_70.2).Loc)) rfl rfl rfl (beq_t _) (fun g_ => e_load1 (tmg (decide (((gi a0 x_70.2).Loc) ≥ 0)) (.pointer (some ⟨b_90, 1, none⟩)) rfl rfl g_) Try.isAgg3 (cell_atL (hp_94.get (i := 3) (j := 0) rfl rfl) rfl)) rfl ?_
                  refine s_gp (v := .slice A_4 a1.length c_5) rfl rfl rfl (beq_t _) (fun g_ => e_move (tm rfl rfl)) rfl ?_
                  refine s_gp (v := .int .i64 (a1.length : Int)) rfl rfl rfl (beq_t _) (fun g_ => e_builtin (.cons (tmg (decide (((gi a0 x_70.2).Loc) ≥ 0)) (.slice A_4 a1.length c_5) rfl rfl g_) .nil) (r_lens Try.runUnderlying37)) rfl ?_
                  refine s_gp (v := .bool (decide (((gi a0 x_70.2).Loc) < (a1.length : Int)))) rfl rfl rfl (beq_t _) (fun g_ => e_bin (tmg (decide (((gi a0 x_70.2).Loc) ≥ 0)) (.int .i64 ((gi a0 x_70.2).Loc)) rfl rfl g_) (tmg (decide (((gi a0 x_70.2).Loc) ≥ 0)) (.int .i64 (a1.length : Int)) rfl rfl g_) (r_lss rfl)) rfl ?_
                  refine sv (v := .bool ((decide (((gi a0 x_70.2).Loc) ≥ 0)) && (decide (((gi a0 x_70.2).Loc) < (a1.length : Int))))) rfl rfl rfl (e_pick (v1 := .bool (decide (((gi a0 x_70.2).Loc) < (a1.length : Int)))) (v2 := .bool false) (tm rfl rfl) (fun h_ => tmg (decide (((gi a0 x_70.2).Loc) ≥ 0)) (.bool (decide (((gi a0 x_70.2).Loc) < (a1.length : Int)))) rfl rfl h_) (fun _ => rfl) (pk_and (decide (((gi a0 x_70.2).Loc) ≥ 0)))) ?_
                  refine sv (v := .bool ((decide (((gi a0 x_70.2).Loc) ≥ 0)) && (decide (((gi a0 x_70.2).Loc) < (a1.length : Int))))) rfl rfl rfl (e_move (tm rfl rfl)) ?_
                  refine s_gp (v := .slice A_4 a1.length c_5) rfl rfl rfl (beq_t _) (fun g_ => e_move (tm rfl rfl)) rfl ?_
                  refine s_gp (v := .pointer (some ⟨b_90, 1, none⟩)) rfl rfl rfl (beq_t _) (fun g_ => e_fieldAddr (tm rfl rfl) Try.runUnderlying33 rfl Try.sizeOf3 rfl rfl) rfl ?_
                  refine s_gp (v := .int .i64 ((gi a0 x_70.2).Loc)) rfl rfl rfl (beq_t _) (fun g_ => e_load1 (tmg ((decide (((gi a0 x_70.2).Loc) ≥ 0)) && (decide (((gi a0 x_70.2).Loc) < (a1.length : Int)))) (.pointer (some ⟨b_90, 1, none⟩)) rfl rfl g_) Try.isAgg3 (cell_atL (hp_94.get (i := 3) (j := 0) rfl rfl) rfl)) rfl ?_
                  rcases Bool.eq_false_or_eq_true ((decide (((gi a0 x_70.2).Loc) ≥ 0)) && (decide (((gi a0 x_70.2).Loc) < (a1.length : Int)))) with h_103 | h_103
                  · have H := ift h_103 H
                    refine gon rfl rfl (congrArg Value.bool h_103) ?_
                    obtain ⟨g_104, H⟩ := grd H
                    obtain ⟨a_109, cs_106, pl_107, q_108, rp_105⟩ := rd_idx q_6 g_104
                    obtain rfl : cs_106 = [.bool ((gi a1 ((gi a0 x_70.2).Loc)).Atomic), .int .i64 ((gi a1 ((gi a0 x_70.2).Loc)).Init)] := rp_105
                    refine sv (v := .pointer (some a_109)) rfl rfl rfl (e_idx (tmg ((decide (((gi a0 x_70.2).Loc) ≥ 0)) && (decide (((gi a0 x_70.2).Loc) < (a1.length : Int)))) (.slice A_4 a1.length c_5) rfl rfl h_103) (tmg ((decide (((gi a0 x_70.2).Loc) ≥ 0)) && (decide (((gi a0 x_70.2).Loc) < (a1.length : Int)))) (.int .i64 ((gi a0 x_70.2).Loc)) rfl rfl h_103) Try.runUnderlying37 Try.sizeOf81 pl_107 g_104) ?_
                    refine gon rfl rfl (congrArg Value.bool h_103) ?_
                    refine sv (v := .pointer (some a_109)) rfl rfl rfl (e_fieldAddr (tm rfl rfl) Try.runUnderlying81 rfl Try.sizeOf4 rfl rfl) ?_
                    refine gon rfl rfl (congrArg Value.bool h_103) ?_
                    refine sv (v := .bool ((gi a1 ((gi a0 x_70.2).Loc)).Atomic)) rfl rfl rfl (e_load1 (tm rfl rfl) Try.isAgg4 (cells_zero (hp_94.ep q_108) rfl)) ?_
                    refine sv (v := .bool ((gi a1 ((gi a0 x_70.2).Loc)).Atomic)) rfl rfl rfl (e_pick (b := ((decide (((gi a0 x_70.2).Loc) ≥ 0)) && (decide (((gi a0 x_70.2).Loc) < (a1.length : Int))))) (v1 := .bool ((gi a1 ((gi a0 x_70.2).Loc)).Atomic)) (v2 := .bool ((gi a1 ((gi a0 x_70.2).Loc)).Atomic)) (tm rfl rfl) (fun _ => (tm rfl rfl)) (fun h_ => pk_no h_ h_103) (pk_same _ _)) ?_
                    refine sv (v := .bool ((gi a1 ((gi a0 x_70.2).Loc)).Atomic)) rfl rfl rfl (e_assign (tm rfl rfl)) ?_
                    refine k_nil ?_
                    obtain rfl := Option.some.inj H
                    exact ⟨_, seenF ⟨rfl, rfl, rfl, rfl, rfl, rfl, rfl, rfl, rfl, rfl, rfl, trivial⟩, hp_94⟩
                  have H := iff_ h_103 H
                  refine goff rfl rfl (congrArg Value.bool h_103) rfl ?_
                  refine goff rfl rfl (congrArg Value.bool h_103) rfl ?_
                  refine goff rfl rfl (congrArg Value.bool h_103) rfl ?_
                  refine sv (v := .bool false) rfl rfl rfl (e_pick (b := ((decide (((gi a0 x_70.2).Loc) ≥ 0)) && (decide (((gi a0 x_70.2).Loc) < (a1.length : Int))))) (v1 := .bool false) (v2 := .bool false) (tm rfl rfl) (fun h_ => pk_no h_103 h_) (fun _ => rfl) (pk_same _ _)) ?_
                  refine sv (v := .bool false) rfl rfl rfl (e_assign (tm rfl rfl)) ?_
                  refine k_nil ?_
                  obtain rfl := Option.some.inj H
                  exact ⟨_, seenF ⟨rfl, rfl, rfl, rfl, rfl, rfl, rfl, rfl, rfl, rfl, rfl, trivial⟩, hp_94⟩
              clear H
              rintro a w' ⟨σ_110, rfl, hp_111⟩
              have H := G_96
              refine k_block ?_
              refine k_seq ?_
              refine k_region ?_
              refine sv (v := .pointer (some ⟨b_90, 0, none⟩)) rfl rfl rfl (e_fieldAddr (tm rfl rfl) Try.runUnderlying33 rfl Try.sizeOf3 rfl rfl) ?_
              refine sv (v := .int .i64 ((gi a0 x_70.2).Kind)) rfl rfl rfl (e_load1 (tm rfl rfl) Try.isAgg3 (cell_atL (hp_111.get (i := 3) (j := 0) rfl rfl) rfl)) ?_
              refine sv (v := .bool (decide (((gi a0 x_70.2).Kind) = 6))) rfl rfl rfl (e_bin (tm rfl rfl) rfl (r_eql rfl)) ?_
              refine sv (v := .bool (decide (((gi a0 x_70.2).Kind) = 6))) rfl rfl rfl (e_assign (tm rfl rfl)) ?_
              refine k_nil ?_
              refine k_if (tm rfl rfl) (fun h_114 => ?_) (fun h_114 => ?_)
              · have H := ift h_114 H
                refine k_region ?_
                refine sv (v := .slice A_77 x_70.1.length c_80) rfl rfl rfl (e_move (tm rfl rfl)) ?_
                refine sv (v := .pointer (some ⟨b_90, 2, none⟩)) rfl rfl rfl (e_fieldAddr (tm rfl rfl) Try.runUnderlying33 rfl Try.sizeOf2 rfl rfl) ?_
                refine sv (v := .int .i64 ((gi a0 x_70.2).Val)) rfl rfl rfl (e_load1 (tm rfl rfl) Try.isAgg2 (cell_atL (hp_111.get (i := 3) (j := 0) rfl rfl) rfl)) ?_
                refine sv (v := .agg #[.int .i64 6, .int .i64 0, .int .i64 0, .int .i64 ((gi a0 x_70.2).Val)]) rfl rfl rfl (e_build (vs := [(0, .int .i64 6), (3, .int .i64 ((gi a0 x_70.2).Val))]) (cs := [.int .i64 6, .int .i64 0, .int .i64 0, .int .i64 ((gi a0 x_70.2).Val)]) (.cons rfl (.cons (tm rfl rfl) .nil)) (by kernel_rfl)) ?_
                refine s_buildSlice (zv := .agg #[.int .i64 0, .int .i64 0, .int .i64 0, .int .i64 0]) (E := api_Act_E) (F := no) (wf := wz) (xs := ([(⟨6, 0, 0, (gi a0 x_70.2).Val⟩ : api_Act)] : List api_Act)) (cs := [.int .i64 6, .int .i64 0, .int .i64 0, .int .i64 ((gi a0 x_70.2).Val)]) (vs := [(0, .agg #[.int .i64 6, .int .i64 0, .int .i64 0, .int .i64 ((gi a0 x_70.2).Val)])]) hp_111 (.cons (tm rfl rfl) .nil) Try.runUnderlying39 Try.sizeOf77 (by intro w_; kernel_rfl) rfl rfl rfl (Reps.cat.2 rfl) (by kernel_rfl) rfl (fun A_115 c_116 w_117 X_118 hp_119 O_120 => ?_)
                obtain ⟨g_121, H⟩ := grd H
                refine s_append (E := api_Act_E) (F := no) (wf := wz) (xs := x_70.1) (ys := ([(⟨6, 0, 0, (gi a0 x_70.2).Val⟩ : api_Act)] : List api_Act)) (r := 2) hp_119 (tm rfl rfl) (tm rfl rfl) Try.underlying39 rfl rfl rfl rfl rfl rfl rfl O_79 (Own.src O_120 hp_119 (i := 4) rfl) g_121 rfl (fun A_122 c_123 w_124 X_125 hp_126 O_127 => ?_)
                refine sv (v := .slice A_122 (x_70.1 ++ ([(⟨6, 0, 0, (gi a0 x_70.2).Val⟩ : api_Act)] : List api_Act)).length c_123) rfl rfl rfl (e_assign (tm rfl rfl)) ?_
                refine k_nil ?_
                obtain rfl := Option.some.inj H
                exact ⟨_, A_122, c_123, X_125, seenF ⟨rfl, rfl, rfl, rfl, rfl, rfl, rfl, rfl, trivial⟩, hp_126.pick [0, 1, 2] (by decide) rfl, O_127⟩
              have H := iff_ h_114 H
              refine k_seq ?_
              refine k_region ?_
              refine sv (v := .func (.func 27) #[] #[.pointer (some ⟨b_7, 0, none⟩)]) rfl rfl rfl (e_move (tm rfl rfl)) ?_
              refine sv (v := .int .i64 x_70.2) rfl rfl rfl (e_move (tm rfl rfl)) ?_
              obtain ⟨r_130, hx_129, H⟩ := bindSome H
              refine s_callc (tm rfl rfl) (.cons (tm rfl rfl) .nil) Try.call27 rfl (thread_Acts_1.calls x_70.2 a0 b_7 A_1 c_2 r_130 _ _ (Hp.offCov hp_111 [[(b_7, .cells #[.slice A_1 a0.length c_2] 26 (0, 0))]] [X_66, X_78, [(b_90, .cells #[.int .i64 ((gi a0 x_70.2).Kind), .int .i64 ((gi a0 x_70.2).Loc), .int .i64 ((gi a0 x_70.2).Val), .int .i64 ((gi a0 x_70.2).Pair), .int .u64 ((gi a0 x_70.2).Addr), .int .u64 ((gi a0 x_70.2).Data), .int .u64 ((gi a0 x_70.2).Ctrl), .int .u64 ((gi a0 x_70.2).Fenced)] 33 (0, 0))]] rfl) (Hp.have1 hp_111 [[(b_7, .cells #[.slice A_1 a0.length c_2] 26 (0, 0))]] _ rfl) (RdS.pass q_3 hp_111) hx_129) rfl ?_
              rintro v_ w_131 ⟨rfl, af_134⟩
              have hp_132 := Hp.callA af_134 hp_111
              refine sv (v := .bool r_130) rfl rfl rfl (e_assign (tm rfl rfl)) ?_
              refine k_nil ?_
              refine k_if (tm rfl rfl) (fun h_135 => ?_) (fun h_135 => ?_)
              · as_aux_lemma =>
                  have H := ift h_135 H
                  refine k_any (WF F w [[(b_7, .cells #[.slice A_1 a0.length c_2] 26 (0, 0))], X_66, X_78, [(b_90, .cells #[.int .i64 ((gi a0 x_70.2).Kind), .int .i64 ((gi a0 x_70.2).Loc), .int .i64 ((gi a0 x_70.2).Val), .int .i64 ((gi a0 x_70.2).Pair), .int .u64 ((gi a0 x_70.2).Addr), .int .u64 ((gi a0 x_70.2).Data), .int .u64 ((gi a0 x_70.2).Ctrl), .int .u64 ((gi a0 x_70.2).Fenced)] 33 (0, 0))]] [[0, 1, 2, 3], [0, 1, 2, 3], [0, 1, 2, 3], [0, 1, 2, 3], [0, 1, 2, 3], [0, 1, 2, 3], [0, 1, 2, 3], [0, 1, 2, 3], [0, 1, 2, 3], [0, 1, 2, 3], [0, 1, 2, 3], [0, 1, 2, 3], [0, 1, 2, 3], [0, 1, 2, 3], [0, 1, 3], [0, 1, 3]] [0, 0, 2, 0, 0, 16, 48, 120, 248, 504, 0, 1024, 4094, 8190, 16383, 32767]) mixed hp_132 16 (by kernel_rfl) (fun w_136 hp_137 => ?_)
                  refine w_take (m' := 1) (v := .slice A_77 x_70.1.length c_80) 0 rfl rfl (by kernel_rfl) (by kernel_rfl) (by kernel_rfl) (by kernel_rfl) (by kernel_rfl) (by kernel_rfl) (by kernel_rfl) (po_then (po_x (po_x (po_x po_body)))) (Wp.of hp_137 [0, 1, 2, 3] rfl) (y_val (fun w_ hW_ => e_move (tm rfl rfl))) ?_
                  refine w_take (m' := 3) (v := .pointer (some ⟨b_90, 1, none⟩)) 1 rfl rfl (by kernel_rfl) (by kernel_rfl) (by kernel_rfl) (by kernel_rfl) (by kernel_rfl) (by kernel_rfl) (by kernel_rfl) (po_then (po_x (po_x (po_x po_body)))) (Wp.of hp_137 [0, 1, 2, 3] rfl) (y_val (fun w_ hW_ => e_fieldAddr (tm rfl rfl) Try.runUnderlying33 rfl Try.sizeOf3 rfl rfl)) ?_
                  refine w_take (m' := 19) (v := .pointer (some ⟨b_90, 3, none⟩)) 4 rfl rfl (by kernel_rfl) (by kernel_rfl) (by kernel_rfl) (by kernel_rfl) (by kernel_rfl) (by kernel_rfl) (by kernel_rfl) (po_then (po_x (po_x (po_x po_body)))) (Wp.of hp_137 [0, 1, 2, 3] rfl) (y_val (fun w_ hW_ => e_fieldAddr (tm rfl rfl) Try.runUnderlying33 rfl Try.sizeOf3 rfl rfl)) ?_
                  refine w_take (m' := 1043) (v := .pointer (some ⟨b_90, 2, none⟩)) 10 rfl rfl (by kernel_rfl) (by kernel_rfl) (by kernel_rfl) (by kernel_rfl) (by kernel_rfl) (by kernel_rfl) (by kernel_rfl) (po_then (po_x (po_x (po_x po_body)))) (Wp.of hp_137 [0, 1, 2, 3] rfl) (y_val (fun w_ hW_ => e_fieldAddr (tm rfl rfl) Try.runUnderlying33 rfl Try.sizeOf2 rfl rfl)) ?_
                  refine w_take (m' := 1047) (v := .int .i64 ((gi a0 x_70.2).Loc)) 2 rfl rfl (by kernel_rfl) (by kernel_rfl) (by kernel_rfl) (by kernel_rfl) (by kernel_rfl) (by kernel_rfl) (by kernel_rfl) (po_then (po_x (po_x (po_x po_body)))) (Wp.of hp_137 [0, 1, 2, 3] rfl) (y_val (fun w_ hW_ => e_load1 (tm rfl rfl) Try.isAgg3 (cell_atL (hW_.get (i := 3) (j := 0) rfl rfl) rfl))) ?_
                  refine w_take (m' := 1055) (v := .slice A_1 a0.length c_2) 3 rfl rfl (by kernel_rfl) (by kernel_rfl) (by kernel_rfl) (by kernel_rfl) (by kernel_rfl) (by kernel_rfl) (by kernel_rfl) (po_then (po_x (po_x (po_x po_body)))) (Wp.of hp_137 [0, 1, 2, 3] rfl) (y_val (fun w_ hW_ => e_load1 (tm rfl rfl) Try.isAgg26 (cell_atL (hW_.get (i := 0) (j := 0) rfl rfl) rfl))) ?_
                  refine w_take (m' := 1087) (v := .int .i64 ((gi a0 x_70.2).Pair)) 5 rfl rfl (by kernel_rfl) (by kernel_rfl) (by kernel_rfl) (by kernel_rfl) (by kernel_rfl) (by kernel_rfl) (by kernel_rfl) (po_then (po_x (po_x (po_x po_body)))) (Wp.of hp_137 [0, 1, 2, 3] rfl) (y_val (fun w_ hW_ => e_load1 (tm rfl rfl) Try.isAgg3 (cell_atL (hW_.get (i := 3) (j := 0) rfl rfl) rfl))) ?_
                  refine w_take (m' := 1151) (v := .int .i64 (wrap64 (((gi a0 x_70.2).Pair) - 1))) 6 rfl rfl (by kernel_rfl) (by kernel_rfl) (by kernel_rfl) (by kernel_rfl) (by kernel_rfl) (by kernel_rfl) (by kernel_rfl) (po_then (po_x (po_x (po_x po_body)))) (Wp.of hp_137 [0, 1, 2, 3] rfl) (y_val (fun w_ hW_ => e_bin (tm rfl rfl) rfl (r_sub (wrap_i64 _)))) ?_
                  obtain ⟨g_138, H⟩ := grd H
                  obtain ⟨a_143, cs_140, pl_141, q_142, rp_139⟩ := rd_idx q_3 g_138
                  obtain rfl : cs_140 = [.int .i64 ((gi a0 (wrap64 (((gi a0 x_70.2).Pair) - 1))).Kind), .int .i64 ((gi a0 (wrap64 (((gi a0 x_70.2).Pair) - 1))).Loc), .int .i64 ((gi a0 (wrap64 (((gi a0 x_70.2).Pair) - 1))).Val), .int .i64 ((gi a0 (wrap64 (((gi a0 x_70.2).Pair) - 1))).Pair), .int .u64 ((gi a0 (wrap64 (((gi a0 x_70.2).Pair) - 1))).Addr), .int .u64 ((gi a0 (wrap64 (((gi a0 x_70.2).Pair) - 1))).Data), .int .u64 ((gi a0 (wrap64 (((gi a0 x_70.2).Pair) - 1))).Ctrl), .int .u64 ((gi a0 (wrap64 (((gi a0 x_70.2).Pair) - 1))).Fenced)] := rp_139
                  refine w_take (m' := 1279) (v := .pointer (some a_143)) 7 rfl rfl (by kernel_rfl) (by kernel_rfl) (by kernel_rfl) (by kernel_rfl) (by kernel_rfl) (by kernel_rfl) (by kernel_rfl) (po_then (po_x (po_x (po_x po_body)))) (Wp.of hp_137 [0, 1, 2, 3] rfl) (y_val (fun w_ hW_ => e_idx (tm rfl rfl) (tm rfl rfl) Try.runUnderlying26 Try.sizeOf33 pl_141 g_138)) ?_
                  refine w_take (m' := 1535) (v := .pointer (some (a_143.add 2))) 8 rfl rfl (by kernel_rfl) (by kernel_rfl) (by kernel_rfl) (by kernel_rfl) (by kernel_rfl) (by kernel_rfl) (by kernel_rfl) (po_then (po_x (po_x (po_x po_body)))) (Wp.of hp_137 [0, 1, 2, 3] rfl) (y_val (fun w_ hW_ => e_fieldAddr (tm rfl rfl) Try.runUnderlying33 rfl Try.sizeOf2 rfl rfl)) ?_
                  refine w_take (m' := 2047) (v := .int .i64 ((gi a0 (wrap64 (((gi a0 x_70.2).Pair) - 1))).Val)) 9 rfl rfl (by kernel_rfl) (by kernel_rfl) (by kernel_rfl) (by kernel_rfl) (by kernel_rfl) (by kernel_rfl) (by kernel_rfl) (po_then (po_x (po_x (po_x po_body)))) (Wp.of hp_137 [0, 1, 2, 3] rfl) (y_val (fun w_ hW_ => e_load1 (tm rfl rfl) Try.isAgg2 (cells_one (hW_.ep q_142) rfl))) ?_
                  refine w_take (m' := 4095) (v := .int .i64 ((gi a0 x_70.2).Val)) 11 rfl rfl (by kernel_rfl) (by kernel_rfl) (by kernel_rfl) (by kernel_rfl) (by kernel_rfl) (by kernel_rfl) (by kernel_rfl) (po_then (po_x (po_x (po_x po_body)))) (Wp.of hp_137 [0, 1, 2, 3] rfl) (y_val (fun w_ hW_ => e_load1 (tm rfl rfl) Try.isAgg2 (cell_atL (hW_.get (i := 3) (j := 0) rfl rfl) rfl))) ?_
                  refine w_take (m' := 8191) (v := .agg #[.int .i64 5, .int .i64 ((gi a0 x_70.2).Loc), .int .i64 ((gi a0 (wrap64 (((gi a0 x_70.2).Pair) - 1))).Val), .int .i64 ((gi a0 x_70.2).Val)]) 12 rfl rfl (by kernel_rfl) (by kernel_rfl) (by kernel_rfl) (by kernel_rfl) (by kernel_rfl) (by kernel_rfl) (by kernel_rfl) (po_then (po_x (po_x (po_x po_body)))) (Wp.of hp_137 [0, 1, 2, 3] rfl) (y_val (fun w_ hW_ => e_build (vs := [(0, .int .i64 5), (1, .int .i64 ((gi a0 x_70.2).Loc)), (2, .int .i64 ((gi a0 (wrap64 (((gi a0 x_70.2).Pair) - 1))).Val)), (3, .int .i64 ((gi a0 x_70.2).Val))]) (cs := [.int .i64 5, .int .i64 ((gi a0 x_70.2).Loc), .int .i64 ((gi a0 (wrap64 (((gi a0 x_70.2).Pair) - 1))).Val), .int .i64 ((gi a0 x_70.2).Val)]) (.cons rfl (.cons (tm rfl rfl) (.cons (tm rfl rfl) (.cons (tm rfl rfl) .nil)))) (by kernel_rfl))) ?_
                  refine w_one (m' := 16383) 13 rfl (by kernel_rfl) (by kernel_rfl) ?_
                  refine s_buildSlice (zv := .agg #[.int .i64 0, .int .i64 0, .int .i64 0, .int .i64 0]) (E := api_Act_E) (F := no) (wf := wz) (xs := ([(⟨5, (gi a0 x_70.2).Loc, (gi a0 (wrap64 (((gi a0 x_70.2).Pair) - 1))).Val, (gi a0 x_70.2).Val⟩ : api_Act)] : List api_Act)) (cs := [.int .i64 5, .int .i64 ((gi a0 x_70.2).Loc), .int .i64 ((gi a0 (wrap64 (((gi a0 x_70.2).Pair) - 1))).Val), .int .i64 ((gi a0 x_70.2).Val)]) (vs := [(0, .agg #[.int .i64 5, .int .i64 ((gi a0 x_70.2).Loc), .int .i64 ((gi a0 (wrap64 (((gi a0 x_70.2).Pair) - 1))).Val), .int .i64 ((gi a0 x_70.2).Val)])]) hp_137 (.cons (tm rfl rfl) .nil) Try.runUnderlying39 Try.sizeOf77 (by intro w_; kernel_rfl) rfl rfl rfl (Reps.cat.2 rfl) (by kernel_rfl) rfl (fun A_144 c_145 w_146 X_147 hp_148 O_149 => ?_)
                  refine k_nil ?_
                  refine ⟨(Wp.of hp_148 [0, 1, 2, 3] rfl), ?_⟩
                  refine w_one (m' := 32767) 14 rfl (by kernel_rfl) (by kernel_rfl) ?_
                  obtain ⟨g_150, H⟩ := grd H
                  refine s_append (E := api_Act_E) (F := no) (wf := wz) (xs := x_70.1) (ys := ([(⟨5, (gi a0 x_70.2).Loc, (gi a0 (wrap64 (((gi a0 x_70.2).Pair) - 1))).Val, (gi a0 x_70.2).Val⟩ : api_Act)] : List api_Act)) (r := 2) hp_148 (tm rfl rfl) (tm rfl rfl) Try.underlying39 rfl rfl rfl rfl rfl rfl rfl O_79 (Own.src O_149 hp_148 (i := 4) rfl) g_150 rfl (fun A_151 c_152 w_153 X_154 hp_155 O_156 => ?_)
                  refine k_nil ?_
                  refine ⟨(Wp.of hp_155 [0, 1, 3] rfl), ?_⟩
                  refine w_take (m' := 65535) (v := .slice A_151 (x_70.1 ++ ([(⟨5, (gi a0 x_70.2).Loc, (gi a0 (wrap64 (((gi a0 x_70.2).Pair) - 1))).Val, (gi a0 x_70.2).Val⟩ : api_Act)] : List api_Act)).length c_152) 15 rfl rfl (by kernel_rfl) (by kernel_rfl) (by kernel_rfl) (by kernel_rfl) (by kernel_rfl) (by kernel_rfl) (by kernel_rfl) (po_then (po_x (po_x (po_x po_body)))) (Wp.of hp_155 [0, 1, 3] rfl) (y_val (fun w_ hW_ => e_assign (tm rfl rfl))) ?_
                  refine w_done (by kernel_rfl) ?_
                  obtain rfl := Option.some.inj H
                  exact ⟨_, A_151, c_152, X_154, seenF ⟨rfl, rfl, rfl, rfl, rfl, rfl, rfl, rfl, trivial⟩, hp_155.pick [0, 1, 2] (by decide) rfl, O_156⟩
              have H := iff_ h_135 H
              refine k_seq ?_
              refine k_region ?_
              refine sv (v := .pointer (some ⟨b_90, 0, none⟩)) rfl rfl rfl (e_fieldAddr (tm rfl rfl) Try.runUnderlying33 rfl Try.sizeOf3 rfl rfl) ?_
              refine sv (v := .int .i64 ((gi a0 x_70.2).Kind)) rfl rfl rfl (e_load1 (tm rfl rfl) Try.isAgg3 (cell_atL (hp_132.get (i := 3) (j := 0) rfl rfl) rfl)) ?_
              refine sv (v := .bool (decide (((gi a0 x_70.2).Kind) = 1))) rfl rfl rfl (e_bin (tm rfl rfl) rfl (r_eql rfl)) ?_
              refine sv (v := .bool (decide (((gi a0 x_70.2).Kind) = 1))) rfl rfl rfl (e_move (tm rfl rfl)) ?_
              refine s_gp (v := .map A_65) rfl rfl rfl (beq_t _) (fun g_ => e_move (tm rfl rfl)) rfl ?_
              refine s_gp (v := .int .i64 x_70.2) rfl rfl rfl (beq_t _) (fun g_ => e_move (tm rfl rfl)) rfl ?_
              refine s_gp (v := .int .i64 ((aget o_15 x_70.2).getD 0)) rfl rfl rfl (beq_t _) (fun g_ => e_lookup (tmg (decide (((gi a0 x_70.2).Kind) = 1)) (.map A_65) rfl rfl g_) (tmg (decide (((gi a0 x_70.2).Kind) = 1)) (.int .i64 x_70.2) rfl rfl g_) Try.runUnderlying78 Try.underlying3 (by intro w_; kernel_rfl) (hp_132.ownm O_67 (i := 1) rfl) (mval _ _)) rfl ?_
              refine s_gp (v := .bool (decide (((aget o_15 x_70.2).getD 0) = 0))) rfl rfl rfl (beq_t _) (fun g_ => e_bin (tmg (decide (((gi a0 x_70.2).Kind) = 1)) (.int .i64 ((aget o_15 x_70.2).getD 0)) rfl rfl g_) rfl (r_eql rfl)) rfl ?_
              refine sv (v := .bool ((decide (((gi a0 x_70.2).Kind) = 1)) && (decide (((aget o_15 x_70.2).getD 0) = 0)))) rfl rfl rfl (e_pick (v1 := .bool (decide (((aget o_15 x_70.2).getD 0) = 0))) (v2 := .bool false) (tm rfl rfl) (fun h_ => tmg (decide (((gi a0 x_70.2).Kind) = 1)) (.bool (decide (((aget o_15 x_70.2).getD 0) = 0))) rfl rfl h_) (fun _ => rfl) (pk_and (decide (((gi a0 x_70.2).Kind) = 1)))) ?_
              refine sv (v := .bool ((decide (((gi a0 x_70.2).Kind) = 1)) && (decide (((aget o_15 x_70.2).getD 0) = 0)))) rfl rfl rfl (e_move (tm rfl rfl)) ?_
              refine s_gp (v := .bool o_95) rfl rfl rfl (beq_t _) (fun g_ => e_move (tm rfl rfl)) rfl ?_
              refine sv (v := .bool (((decide (((gi a0 x_70.2).Kind) = 1)) && (decide (((aget o_15 x_70.2).getD 0) = 0))) && o_95)) rfl rfl rfl (e_pick (v1 := .bool o_95) (v2 := .bool false) (tm rfl rfl) (fun h_ => tmg ((decide (((gi a0 x_70.2).Kind) = 1)) && (decide (((aget o_15 x_70.2).getD 0) = 0))) (.bool o_95) rfl rfl h_) (fun _ => rfl) (pk_and ((decide (((gi a0 x_70.2).Kind) = 1)) && (decide (((aget o_15 x_70.2).getD 0) = 0))))) ?_
              refine sv (v := .bool (((decide (((gi a0 x_70.2).Kind) = 1)) && (decide (((aget o_15 x_70.2).getD 0) = 0))) && o_95)) rfl rfl rfl (e_assign (tm rfl rfl)) ?_
              refine k_nil ?_
              refine k_if (tm rfl rfl) (fun h_157 => ?_) (fun h_157 => ?_)
              · have H := ift h_157 H
                refine k_region ?_
                refine sv (v := .slice A_77 x_70.1.length c_80) rfl rfl rfl (e_move (tm rfl rfl)) ?_
                refine sv (v := .pointer (some ⟨b_90, 1, none⟩)) rfl rfl rfl (e_fieldAddr (tm rfl rfl) Try.runUnderlying33 rfl Try.sizeOf3 rfl rfl) ?_
                refine sv (v := .int .i64 ((gi a0 x_70.2).Loc)) rfl rfl rfl (e_load1 (tm rfl rfl) Try.isAgg3 (cell_atL (hp_132.get (i := 3) (j := 0) rfl rfl) rfl)) ?_
                refine sv (v := .pointer (some ⟨b_90, 2, none⟩)) rfl rfl rfl (e_fieldAddr (tm rfl rfl) Try.runUnderlying33 rfl Try.sizeOf2 rfl rfl) ?_
                refine sv (v := .int .i64 ((gi a0 x_70.2).Val)) rfl rfl rfl (e_load1 (tm rfl rfl) Try.isAgg2 (cell_atL (hp_132.get (i := 3) (j := 0) rfl rfl) rfl)) ?_
                refine sv (v := .agg #[.int .i64 3, .int .i64 ((gi a0 x_70.2).Loc), .int .i64 ((gi a0 x_70.2).Val), .int .i64 0]) rfl rfl rfl (e_build (vs := [(0, .int .i64 3), (1, .int .i64 ((gi a0 x_70.2).Loc)), (2, .int .i64 ((gi a0 x_70.2).Val))]) (cs := [.int .i64 3, .int .i64 ((gi a0 x_70.2).Loc), .int .i64 ((gi a0 x_70.2).Val), .int .i64 0]) (.cons rfl (.cons (tm rfl rfl) (.cons (tm rfl rfl) .nil))) (by kernel_rfl)) ?_
                refine s_buildSlice (zv := .agg #[.int .i64 0, .int .i64 0, .int .i64 0, .int .i64 0]) (E := api_Act_E) (F := no) (wf := wz) (xs := ([(⟨3, (gi a0 x_70.2).Loc, (gi a0 x_70.2).Val, 0⟩ : api_Act)] : List api_Act)) (cs := [.int .i64 3, .int .i64 ((gi a0 x_70.2).Loc), .int .i64 ((gi a0 x_70.2).Val), .int .i64 0]) (vs := [(0, .agg #[.int .i64 3, .int .i64 ((gi a0 x_70.2).Loc), .int .i64 ((gi a0 x_70.2).Val), .int .i64 0])]) hp_132 (.cons (tm rfl rfl) .nil) Try.runUnderlying39 Try.sizeOf77 (by intro w_; kernel_rfl) rfl rfl rfl (Reps.cat.2 rfl) (by kernel_rfl) rfl (fun A_158 c_159 w_160 X_161 hp_162 O_163 => ?_)
                obtain ⟨g_164, H⟩ := grd H
                refine s_append (E := api_Act_E) (F := no) (wf := wz) (xs := x_70.1) (ys := ([(⟨3, (gi a0 x_70.2).Loc, (gi a0 x_70.2).Val, 0⟩ : api_Act)] : List api_Act)) (r := 2) hp_162 (tm rfl rfl) (tm rfl rfl) Try.underlying39 rfl rfl rfl rfl rfl rfl rfl O_79 (Own.src O_163 hp_162 (i := 4) rfl) g_164 rfl (fun A_165 c_166 w_167 X_168 hp_169 O_170 => ?_)
                refine sv (v := .slice A_165 (x_70.1 ++ ([(⟨3, (gi a0 x_70.2).Loc, (gi a0 x_70.2).Val, 0⟩ : api_Act)] : List api_Act)).length c_166) rfl rfl rfl (e_assign (tm rfl rfl)) ?_
                refine k_nil ?_
                obtain rfl := Option.some.inj H
                exact ⟨_, A_165, c_166, X_168, seenF ⟨rfl, rfl, rfl, rfl, rfl, rfl, rfl, rfl, trivial⟩, hp_169.pick [0, 1, 2] (by decide) rfl, O_170⟩
              have H := iff_ h_157 H
              refine k_seq ?_
              refine k_region ?_
              refine sv (v := .pointer (some ⟨b_90, 0, none⟩)) rfl rfl rfl (e_fieldAddr (tm rfl rfl) Try.runUnderlying33 rfl Try.sizeOf3 rfl rfl) ?_
              refine sv (v := .int .i64 ((gi a0 x_70.2).Kind)) rfl rfl rfl (e_load1 (tm rfl rfl) Try.isAgg3 (cell_atL (hp_132.get (i := 3) (j := 0) rfl rfl) rfl)) ?_
              refine sv (v := .bool (decide (((gi a0 x_70.2).Kind) = 1))) rfl rfl rfl (e_bin (tm rfl rfl) rfl (r_eql rfl)) ?_
              refine sv (v := .bool (decide (((gi a0 x_70.2).Kind) = 1))) rfl rfl rfl (e_move (tm rfl rfl)) ?_
              refine s_gp (v := .map A_65) rfl rfl rfl (beq_t _) (fun g_ => e_move (tm rfl rfl)) rfl ?_
              refine s_gp (v := .int .i64 x_70.2) rfl rfl rfl (beq_t _) (fun g_ => e_move (tm rfl rfl)) rfl ?_
              refine s_gp (v := .int .i64 ((aget o_15 x_70.2).getD 0)) rfl rfl rfl (beq_t _) (fun g_ => e_lookup (tmg (decide (((gi a0 x_70.2).Kind) = 1)) (.map A_65) rfl rfl g_) (tmg (decide (((gi a0 x_70.2).Kind) = 1)) (.int .i64 x_70.2) rfl rfl g_) Try.runUnderlying78 Try.underlying3 (by intro w_; kernel_rfl) (hp_132.ownm O_67 (i := 1) rfl) (mval _ _)) rfl ?_
              refine s_gp (v := .bool (decide (((aget o_15 x_70.2).getD 0) = 0))) rfl rfl rfl (beq_t _) (fun g_ => e_bin (tmg (decide (((gi a0 x_70.2).Kind) = 1)) (.int .i64 ((aget o_15 x_70.2).getD 0)) rfl rfl g_) rfl (r_eql rfl)) rfl ?_
              refine sv (v := .bool ((decide (((gi a0 x_70.2).Kind) = 1)) && (decide (((aget o_15 x_70.2).getD 0) = 0)))) rfl rfl rfl (e_pick (v1 := .bool (decide (((aget o_15 x_70.2).getD 0) = 0))) (v2 := .bool false) (tm rfl rfl) (fun h_ => tmg (decide (((gi a0 x_70.2).Kind) = 1)) (.bool (decide (((aget o_15 x_70.2).getD 0) = 0))) rfl rfl h_) (fun _ => rfl) (pk_and (decide (((gi a0 x_70.2).Kind) = 1)))) ?_
              refine sv (v := .bool ((decide (((gi a0 x_70.2).Kind) = 1)) && (decide (((aget o_15 x_70.2).getD 0) = 0)))) rfl rfl rfl (e_assign (tm rfl rfl)) ?_
              refine k_nil ?_
              refine k_if (tm rfl rfl) (fun h_171 => ?_) (fun h_171 => ?_)
              · have H := ift h_171 H
                refine k_region ?_
                refine sv (v := .slice A_77 x_70.1.length c_80) rfl rfl rfl (e_move (tm rfl rfl)) ?_
                refine sv (v := .pointer (some ⟨b_90, 1, none⟩)) rfl rfl rfl (e_fieldAddr (tm rfl rfl) Try.runUnderlying33 rfl Try.sizeOf3 rfl rfl) ?_
                refine sv (v := .int .i64 ((gi a0 x_70.2).Loc)) rfl rfl rfl (e_load1 (tm rfl rfl) Try.isAgg3 (cell_atL (hp_132.get (i := 3) (j := 0) rfl rfl) rfl)) ?_
                refine sv (v := .pointer (some ⟨b_90, 2, none⟩)) rfl rfl rfl (e_fieldAddr (tm rfl rfl) Try.runUnderlying33 rfl Try.sizeOf2 rfl rfl) ?_
                refine sv (v := .int .i64 ((gi a0 x_70.2).Val)) rfl rfl rfl (e_load1 (tm rfl rfl) Try.isAgg2 (cell_atL (hp_132.get (i := 3) (j := 0) rfl rfl) rfl)) ?_
                refine sv (v := .agg #[.int .i64 1, .int .i64 ((gi a0 x_70.2).Loc), .int .i64 ((gi a0 x_70.2).Val), .int .i64 0]) rfl rfl rfl (e_build (vs := [(0, .int .i64 1), (1, .int .i64 ((gi a0 x_70.2).Loc)), (2, .int .i64 ((gi a0 x_70.2).Val))]) (cs := [.int .i64 1, .int .i64 ((gi a0 x_70.2).Loc), .int .i64 ((gi a0 x_70.2).Val), .int .i64 0]) (.cons rfl (.cons (tm rfl rfl) (.cons (tm rfl rfl) .nil))) (by kernel_rfl)) ?_
                refine s_buildSlice (zv := .agg #[.int .i64 0, .int .i64 0, .int .i64 0, .int .i64 0]) (E := api_Act_E) (F := no) (wf := wz) (xs := ([(⟨1, (gi a0 x_70.2).Loc, (gi a0 x_70.2).Val, 0⟩ : api_Act)] : List api_Act)) (cs := [.int .i64 1, .int .i64 ((gi a0 x_70.2).Loc), .int .i64 ((gi a0 x_70.2).Val), .int .i64 0]) (vs := [(0, .agg #[.int .i64 1, .int .i64 ((gi a0 x_70.2).Loc), .int .i64 ((gi a0 x_70.2).Val), .int .i64 0])]) hp_132 (.cons (tm rfl rfl) .nil) Try.runUnderlying39 Try.sizeOf77 (by intro w_; kernel_rfl) rfl rfl rfl (Reps.cat.2 rfl) (by kernel_rfl) rfl (fun A_172 c_173 w_174 X_175 hp_176 O_177 => ?_)
                obtain ⟨g_178, H⟩ := grd H
                refine s_append (E := api_Act_E) (F := no) (wf := wz) (xs := x_70.1) (ys := ([(⟨1, (gi a0 x_70.2).Loc, (gi a0 x_70.2).Val, 0⟩ : api_Act)] : List api_Act)) (r := 2) hp_176 (tm rfl rfl) (tm rfl rfl) Try.underlying39 rfl rfl rfl rfl rfl rfl rfl O_79 (Own.src O_177 hp_176 (i := 4) rfl) g_178 rfl (fun A_179 c_180 w_181 X_182 hp_183 O_184 => ?_)
                refine sv (v := .slice A_179 (x_70.1 ++ ([(⟨1, (gi a0 x_70.2).Loc, (gi a0 x_70.2).Val, 0⟩ : api_Act)] : List api_Act)).length c_180) rfl rfl rfl (e_assign (tm rfl rfl)) ?_
                refine k_nil ?_
                obtain rfl := Option.some.inj H
                exact ⟨_, A_179, c_180, X_182, seenF ⟨rfl, rfl, rfl, rfl, rfl, rfl, rfl, rfl, trivial⟩, hp_183.pick [0, 1, 2] (by decide) rfl, O_184⟩
              have H := iff_ h_171 H
              refine k_seq ?_
              refine k_region ?_
              refine sv (v := .pointer (some ⟨b_90, 0, none⟩)) rfl rfl rfl (e_fieldAddr (tm rfl rfl) Try.runUnderlying33 rfl Try.sizeOf3 rfl rfl) ?_
              refine sv (v := .int .i64 ((gi a0 x_70.2).Kind)) rfl rfl rfl (e_load1 (tm rfl rfl) Try.isAgg3 (cell_atL (hp_132.get (i := 3) (j := 0) rfl rfl) rfl)) ?_
              refine sv (v := .bool (decide (((gi a0 x_70.2).Kind) = 2))) rfl rfl rfl (e_bin (tm rfl rfl) rfl (r_eql rfl)) ?_
              refine sv (v := .bool (decide (((gi a0 x_70.2).Kind) = 2))) rfl rfl rfl (e_move (tm rfl rfl)) ?_
              refine s_gp (v := .bool o_95) rfl rfl rfl (beq_t _) (fun g_ => e_move (tm rfl rfl)) rfl ?_
              refine sv (v := .bool ((decide (((gi a0 x_70.2).Kind) = 2)) && o_95)) rfl rfl rfl (e_pick (v1 := .bool o_95) (v2 := .bool false) (tm rfl rfl) (fun h_ => tmg (decide (((gi a0 x_70.2).Kind) = 2)) (.bool o_95) rfl rfl h_) (fun _ => rfl) (pk_and (decide (((gi a0 x_70.2).Kind) = 2)))) ?_
              refine sv (v := .bool ((decide (((gi a0 x_70.2).Kind) = 2)) && o_95)) rfl rfl rfl (e_assign (tm rfl rfl)) ?_
              refine k_nil ?_
              refine k_if (tm rfl rfl) (fun h_185 => ?_) (fun h_185 => ?_)
              · have H := ift h_185 H
                refine k_region ?_
                refine sv (v := .slice A_77 x_70.1.length c_80) rfl rfl rfl (e_move (tm rfl rfl)) ?_
                refine sv (v := .pointer (some ⟨b_90, 1, none⟩)) rfl rfl rfl (e_fieldAddr (tm rfl rfl) Try.runUnderlying33 rfl Try.sizeOf3 rfl rfl) ?_
                refine sv (v := .int .i64 ((gi a0 x_70.2).Loc)) rfl rfl rfl (e_load1 (tm rfl rfl) Try.isAgg3 (cell_atL (hp_132.get (i := 3) (j := 0) rfl rfl) rfl)) ?_
                refine sv (v := .pointer (some ⟨b_90, 2, none⟩)) rfl rfl rfl (e_fieldAddr (tm rfl rfl) Try.runUnderlying33 rfl Try.sizeOf2 rfl rfl) ?_
                refine sv (v := .int .i64 ((gi a0 x_70.2).Val)) rfl rfl rfl (e_load1 (tm rfl rfl) Try.isAgg2 (cell_atL (hp_132.get (i := 3) (j := 0) rfl rfl) rfl)) ?_
                refine sv (v := .agg #[.int .i64 4, .int .i64 ((gi a0 x_70.2).Loc), .int .i64 0, .int .i64 ((gi a0 x_70.2).Val)]) rfl rfl rfl (e_build (vs := [(0, .int .i64 4), (1, .int .i64 ((gi a0 x_70.2).Loc)), (3, .int .i64 ((gi a0 x_70.2).Val))]) (cs := [.int .i64 4, .int .i64 ((gi a0 x_70.2).Loc), .int .i64 0, .int .i64 ((gi a0 x_70.2).Val)]) (.cons rfl (.cons (tm rfl rfl) (.cons (tm rfl rfl) .nil))) (by kernel_rfl)) ?_
                refine s_buildSlice (zv := .agg #[.int .i64 0, .int .i64 0, .int .i64 0, .int .i64 0]) (E := api_Act_E) (F := no) (wf := wz) (xs := ([(⟨4, (gi a0 x_70.2).Loc, 0, (gi a0 x_70.2).Val⟩ : api_Act)] : List api_Act)) (cs := [.int .i64 4, .int .i64 ((gi a0 x_70.2).Loc), .int .i64 0, .int .i64 ((gi a0 x_70.2).Val)]) (vs := [(0, .agg #[.int .i64 4, .int .i64 ((gi a0 x_70.2).Loc), .int .i64 0, .int .i64 ((gi a0 x_70.2).Val)])]) hp_132 (.cons (tm rfl rfl) .nil) Try.runUnderlying39 Try.sizeOf77 (by intro w_; kernel_rfl) rfl rfl rfl (Reps.cat.2 rfl) (by kernel_rfl) rfl (fun A_186 c_187 w_188 X_189 hp_190 O_191 => ?_)
                obtain ⟨g_192, H⟩ := grd H
                refine s_append (E := api_Act_E) (F := no) (wf := wz) (xs := x_70.1) (ys := ([(⟨4, (gi a0 x_70.2).Loc, 0, (gi a0 x_70.2).Val⟩ : api_Act)] : List api_Act)) (r := 2) hp_190 (tm rfl rfl) (tm rfl rfl) Try.underlying39 rfl rfl rfl rfl rfl rfl rfl O_79 (Own.src O_191 hp_190 (i := 4) rfl) g_192 rfl (fun A_193 c_194 w_195 X_196 hp_197 O_198 => ?_)
                refine sv (v := .slice A_193 (x_70.1 ++ ([(⟨4, (gi a0 x_70.2).Loc, 0, (gi a0 x_70.2).Val⟩ : api_Act)] : List api_Act)).length c_194) rfl rfl rfl (e_assign (tm rfl rfl)) ?_
                refine k_nil ?_
                obtain rfl := Option.some.inj H
                exact ⟨_, A_193, c_194, X_196, seenF ⟨rfl, rfl, rfl, rfl, rfl, rfl, rfl, rfl, trivial⟩, hp_197.pick [0, 1, 2] (by decide) rfl, O_198⟩
              have H := iff_ h_185 H
              refine k_seq ?_
              refine k_region ?_
              refine sv (v := .pointer (some ⟨b_90, 0, none⟩)) rfl rfl rfl (e_fieldAddr (tm rfl rfl) Try.runUnderlying33 rfl Try.sizeOf3 rfl rfl) ?_
              refine sv (v := .int .i64 ((gi a0 x_70.2).Kind)) rfl rfl rfl (e_load1 (tm rfl rfl) Try.isAgg3 (cell_atL (hp_132.get (i := 3) (j := 0) rfl rfl) rfl)) ?_
              refine sv (v := .bool (decide (((gi a0 x_70.2).Kind) = 2))) rfl rfl rfl (e_bin (tm rfl rfl) rfl (r_eql rfl)) ?_
              refine sv (v := .bool (decide (((gi a0 x_70.2).Kind) = 2))) rfl rfl rfl (e_assign (tm rfl rfl)) ?_
              refine k_nil ?_
              refine k_if (tm rfl rfl) (fun h_199 => ?_) (fun h_199 => ?_)
              · have H := ift h_199 H
                refine k_region ?_
                refine sv (v := .slice A_77 x_70.1.length c_80) rfl rfl rfl (e_move (tm rfl rfl)) ?_
                refine sv (v := .pointer (some ⟨b_90, 1, none⟩)) rfl rfl rfl (e_fieldAddr (tm rfl rfl) Try.runUnderlying33 rfl Try.sizeOf3 rfl rfl) ?_
                refine sv (v := .int .i64 ((gi a0 x_70.2).Loc)) rfl rfl rfl (e_load1 (tm rfl rfl) Try.isAgg3 (cell_atL (hp_132.get (i := 3) (j := 0) rfl rfl) rfl)) ?_
                refine sv (v := .pointer (some ⟨b_90, 2, none⟩)) rfl rfl rfl (e_fieldAddr (tm rfl rfl) Try.runUnderlying33 rfl Try.sizeOf2 rfl rfl) ?_
                refine sv (v := .int .i64 ((gi a0 x_70.2).Val)) rfl rfl rfl (e_load1 (tm rfl rfl) Try.isAgg2 (cell_atL (hp_132.get (i := 3) (j := 0) rfl rfl) rfl)) ?_
                refine sv (v := .agg #[.int .i64 2, .int .i64 ((gi a0 x_70.2).Loc), .int .i64 0, .int .i64 ((gi a0 x_70.2).Val)]) rfl rfl rfl (e_build (vs := [(0, .int .i64 2), (1, .int .i64 ((gi a0 x_70.2).Loc)), (3, .int .i64 ((gi a0 x_70.2).Val))]) (cs := [.int .i64 2, .int .i64 ((gi a0 x_70.2).Loc), .int .i64 0, .int .i64 ((gi a0 x_70.2).Val)]) (.cons rfl (.cons (tm rfl rfl) (.cons (tm rfl rfl) .nil))) (by kernel_rfl)) ?_
                refine s_buildSlice (zv := .agg #[.int .i64 0, .int .i64 0, .int .i64 0, .int .i64 0]) (E := api_Act_E) (F := no) (wf := wz) (xs := ([(⟨2, (gi a0 x_70.2).Loc, 0, (gi a0 x_70.2).Val⟩ : api_Act)] : List api_Act)) (cs := [.int .i64 2, .int .i64 ((gi a0 x_70.2).Loc), .int .i64 0, .int .i64 ((gi a0 x_70.2).Val)]) (vs := [(0, .agg #[.int .i64 2, .int .i64 ((gi a0 x_70.2).Loc), .int .i64 0, .int .i64 ((gi a0 x_70.2).Val)])]) hp_132 (.cons (tm rfl rfl) .nil) Try.runUnderlying39 Try.sizeOf77 (by intro w_; kernel_rfl) rfl rfl rfl (Reps.cat.2 rfl) (by kernel_rfl) rfl (fun A_200 c_201 w_202 X_203 hp_204 O_205 => ?_)
                obtain ⟨g_206, H⟩ := grd H
                refine s_append (E := api_Act_E) (F := no) (wf := wz) (xs := x_70.1) (ys := ([(⟨2, (gi a0 x_70.2).Loc, 0, (gi a0 x_70.2).Val⟩ : api_Act)] : List api_Act)) (r := 2) hp_204 (tm rfl rfl) (tm rfl rfl) Try.underlying39 rfl rfl rfl rfl rfl rfl rfl O_79 (Own.src O_205 hp_204 (i := 4) rfl) g_206 rfl (fun A_207 c_208 w_209 X_210 hp_211 O_212 => ?_)
                refine sv (v := .slice A_207 (x_70.1 ++ ([(⟨2, (gi a0 x_70.2).Loc, 0, (gi a0 x_70.2).Val⟩ : api_Act)] : List api_Act)).length c_208) rfl rfl rfl (e_assign (tm rfl rfl)) ?_
                refine k_nil ?_
                obtain rfl := Option.some.inj H
                exact ⟨_, A_207, c_208, X_210, seenF ⟨rfl, rfl, rfl, rfl, rfl, rfl, rfl, rfl, trivial⟩, hp_211.pick [0, 1, 2] (by decide) rfl, O_212⟩
              have H := iff_ h_199 H
              refine k_skip ?_
              obtain rfl := Option.some.inj H
              exact ⟨_, A_77, c_80, X_78, seenF ⟨rfl, rfl, rfl, rfl, rfl, rfl, rfl, rfl, trivial⟩, hp_132.pick [0, 1, 2] (by decide) rfl, O_79⟩
          clear H
          rintro a w' ⟨σ_214, A_218, c_221, X_219, rfl, hp_215, O_220⟩
          have H := G_83
          refine k_region ?_
          refine sv (v := .int .i64 (wrap64 (x_70.2 + 1))) rfl rfl rfl (e_bin (tm rfl rfl) rfl (r_add (wrap_i64 _))) ?_
          refine sv (v := .int .i64 (wrap64 (x_70.2 + 1))) rfl rfl rfl (e_move (tm rfl rfl)) ?_
          refine k_nil ?_
          obtain rfl := Option.some.inj H
          exact ⟨_, rfl, ⟨_, A_218, c_221, X_219, seenF ⟨rfl, rfl, rfl, rfl, rfl, rfl, rfl, rfl, trivial⟩, hp_215, O_220⟩⟩
      have H := iff_ h_81 H
      refine k_exit ?_
      refine q_here ?_
      obtain ⟨v_, H', hv_⟩ := mapSome H
      have hv_ := hz_71 _ hv_
      subst hv_
      have H := H'
      clear H'
      obtain rfl := Option.some.inj H
      exact ⟨_, A_77, c_80, X_78, seenF ⟨rfl, trivial⟩, hp_74.pick [2] (by decide) rfl, O_79⟩
  clear H
  rintro a w' ⟨σ_223, A_227, c_230, X_228, rfl, hp_224, O_229⟩
  have H := G_69
  refine k_seq ?_
  refine k_region ?_
  refine sv (v := .slice A_227 o_68.length c_230) rfl rfl rfl (e_move (tm rfl rfl)) ?_
  refine sv (v := .slice A_227 o_68.length c_230) rfl rfl rfl (e_assign (tm rfl rfl)) ?_
  refine k_nil ?_
  refine k_ret ?_
  obtain rfl := Option.some.inj H
  exact k_end rfl (.tmp rfl rfl .nil) rfl ⟨A_227, c_230, X_228, rfl, O_229, (hp_224).aft⟩

end Go.Proofs.Ytcnchjlomcafeaa.W

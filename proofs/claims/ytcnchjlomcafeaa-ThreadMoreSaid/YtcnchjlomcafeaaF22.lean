/- Functions of the program as plain Lean functions, and that the calls do what they say: written by w2.py. -/
import Derived.Test.YtcnchjlomcafeaaDefer
import Derived.Test.YtcnchjlomcafeaaTy
import Derived.Test.YtcnchjlomcafeaaF18
import Derived.Test.YtcnchjlomcafeaaF19
import Derived.Test.YtcnchjlomcafeaaF20
set_option linter.unusedVariables false
set_option linter.unusedSimpArgs false
set_option linter.unusedSectionVars false
namespace Go.Proofs.Ytcnchjlomcafeaa.W
open Go Go.RowKit Go.Proofs.Ytcnchjlomcafeaa.B
attribute [local irreducible] Go.wpList Go.Code.wp Go.Region.wanted Go.yielded
/-! ### selvage/selvagelaw16.ThreadMore: function 5 -/
def selvagelaw16_ThreadMore.m (a0 : List api_Inst) (a1 : Int) (a2 : Int) (a3 : List Int) (a4 : List Int) : Option Bool :=
  (selvagelaw16_awake.m).bind fun r_12 => (if (!r_12) = true then (some false) else (if (((decide ((a0.length : Int) > 300)) || (decide ((a3.length : Int) > 100))) || (decide ((a4.length : Int) > 100))) = true then (some true) else ((thread_Do.m a0 a1 a2 a3).bind fun r_21 => (if (([] : List Int).length + a3.length) * 8 ≤ 140737488355328 then (if ((([] : List Int) ++ a3).length + a4.length) * 8 ≤ 140737488355328 then ((thread_Do.m a0 a1 a2 ((([] : List Int) ++ a3) ++ a4)).bind fun r_57 => (if (!decide (r_21.Status = 4)) = true then ((selvageref16_Same.m r_21 r_57).bind fun r_74 => (some r_74)) else ((if (decide ((r_57.Events.length : Int) ≥ (r_21.Events.length : Int))) = true then (if 0 ≤ (r_21.Events.length : Int) ∧ (r_21.Events.length : Int) ≤ (r_57.Events.length : Int) then ((selvageref16_Same.m (⟨(r_57.Events.take ((r_21.Events.length : Int) : Int).toNat), 0⟩ : api_Run) (⟨r_21.Events, 0⟩ : api_Run)).bind fun r_90 => (some r_90)) else none) else (some false) : Option Bool).bind fun o_79 => some o_79))) else none) else none))))
set_option maxHeartbeats 4000000 in
set_option maxRecDepth 100000 in
theorem selvagelaw16_ThreadMore.calls (a0 : List api_Inst) (A_1 : Option Addr) (c_2 : Nat) (a1 : Int) (a2 : Int) (a3 : List Int) (A_4 : Option Addr) (c_5 : Nat) (a4 : List Int) (A_7 : Option Addr) (c_8 : Nat) (r : Bool) (w : World) (F : Nat → Prop) (hF : ∀ k, F k → Off w [] k) (q_3 : RdS api_Inst_E F w A_1 c_2 a0) (q_6 : RdS (intE .i64) F w A_4 c_5 a3) (q_9 : RdS (intE .i64) F w A_7 c_8 a4) (H : selvagelaw16_ThreadMore.m a0 a1 a2 a3 a4 = some r) :
    Ret Try.prog 5 [.slice A_1 a0.length c_2, .int .i64 a1, .int .i64 a2, .slice A_4 a3.length c_5, .slice A_7 a4.length c_8] w fun v w' => v = .bool r ∧ Aft w w' [] [] := by
  unfold selvagelaw16_ThreadMore.m at H
  have hp0 := Hp.startR (R := []) (Have.nil w) hF
  have ep0 := Ep.refl F [] w
  refine enter (L := [(0, .slice A_1 a0.length c_2), (1, .int .i64 a1), (2, .int .i64 a2), (3, .slice A_4 a3.length c_5), (4, .slice A_7 a4.length c_8)]) Try.func5 rfl Try.ntmps5 rfl rfl ?_
  refine k_seq ?_
  refine k_region ?_
  refine sv (v := .bool false) rfl rfl rfl (e_assign rfl) ?_
  refine k_nil ?_
  refine k_seq ?_
  refine k_seq ?_
  refine k_region ?_
  obtain ⟨r_12, hx_11, H⟩ := bindSome H
  refine s_call .nil Try.call9 (selvagelaw16_awake.calls r_12 _ hx_11) rfl ?_
  rintro v_ w_13 ⟨rfl, af_16⟩
  have hp_14 := Hp.callA af_16 hp0
  refine sv (v := .bool (!r_12)) rfl rfl rfl (e_un (tm rfl rfl) (r_not rfl)) ?_
  refine k_nil ?_
  refine k_if (tm rfl rfl) (fun h_17 => ?_) (fun h_17 => ?_)
  · have H := ift h_17 H
    refine k_seq ?_
    refine k_region ?_
    refine sv (v := .bool false) rfl rfl rfl (e_assign rfl) ?_
    refine k_nil ?_
    refine k_ret ?_
    obtain rfl := Option.some.inj H
    exact k_end rfl (.tmp rfl rfl .nil) rfl ⟨rfl, (hp_14).aft⟩
  have H := iff_ h_17 H
  refine k_skip ?_
  refine k_seq ?_
  refine k_seq ?_
  refine k_region ?_
  refine sv (v := .slice A_1 a0.length c_2) rfl rfl rfl (e_move (tm rfl rfl)) ?_
  refine sv (v := .int .i64 (a0.length : Int)) rfl rfl rfl (e_builtin (.cons (tm rfl rfl) .nil) (r_lens Try.runUnderlying22)) ?_
  refine sv (v := .bool (decide ((a0.length : Int) > 300))) rfl rfl rfl (e_bin (tm rfl rfl) rfl (r_gtr rfl)) ?_
  refine sv (v := .bool (decide ((a0.length : Int) > 300))) rfl rfl rfl (e_move (tm rfl rfl)) ?_
  refine s_gp (v := .slice A_4 a3.length c_5) rfl rfl rfl (beq_f _) (fun g_ => e_move (tm rfl rfl)) rfl ?_
  refine s_gp (v := .int .i64 (a3.length : Int)) rfl rfl rfl (beq_f _) (fun g_ => e_builtin (.cons (tmg (!(decide ((a0.length : Int) > 300))) (.slice A_4 a3.length c_5) rfl rfl g_) .nil) (r_lens Try.runUnderlying23)) rfl ?_
  refine s_gp (v := .bool (decide ((a3.length : Int) > 100))) rfl rfl rfl (beq_f _) (fun g_ => e_bin (tmg (!(decide ((a0.length : Int) > 300))) (.int .i64 (a3.length : Int)) rfl rfl g_) rfl (r_gtr rfl)) rfl ?_
  refine sv (v := .bool ((decide ((a0.length : Int) > 300)) || (decide ((a3.length : Int) > 100)))) rfl rfl rfl (e_pick (v1 := .bool true) (v2 := .bool (decide ((a3.length : Int) > 100))) (tm rfl rfl) (fun _ => rfl) (fun h_ => tmg (!(decide ((a0.length : Int) > 300))) (.bool (decide ((a3.length : Int) > 100))) rfl rfl (nt h_)) (pk_or (decide ((a0.length : Int) > 300)))) ?_
  refine sv (v := .bool ((decide ((a0.length : Int) > 300)) || (decide ((a3.length : Int) > 100)))) rfl rfl rfl (e_move (tm rfl rfl)) ?_
  refine s_gp (v := .slice A_7 a4.length c_8) rfl rfl rfl (beq_f _) (fun g_ => e_move (tm rfl rfl)) rfl ?_
  refine s_gp (v := .int .i64 (a4.length : Int)) rfl rfl rfl (beq_f _) (fun g_ => e_builtin (.cons (tmg (!((decide ((a0.length : Int) > 300)) || (decide ((a3.length : Int) > 100)))) (.slice A_7 a4.length c_8) rfl rfl g_) .nil) (r_lens Try.runUnderlying23)) rfl ?_
  refine s_gp (v := .bool (decide ((a4.length : Int) > 100))) rfl rfl rfl (beq_f _) (fun g_ => e_bin (tmg (!((decide ((a0.length : Int) > 300)) || (decide ((a3.length : Int) > 100)))) (.int .i64 (a4.length : Int)) rfl rfl g_) rfl (r_gtr rfl)) rfl ?_
  refine sv (v := .bool (((decide ((a0.length : Int) > 300)) || (decide ((a3.length : Int) > 100))) || (decide ((a4.length : Int) > 100)))) rfl rfl rfl (e_pick (v1 := .bool true) (v2 := .bool (decide ((a4.length : Int) > 100))) (tm rfl rfl) (fun _ => rfl) (fun h_ => tmg (!((decide ((a0.length : Int) > 300)) || (decide ((a3.length : Int) > 100)))) (.bool (decide ((a4.length : Int) > 100))) rfl rfl (nt h_)) (pk_or ((decide ((a0.length : Int) > 300)) || (decide ((a3.length : Int) > 100))))) ?_
  refine k_nil ?_
  refine k_if (tm rfl rfl) (fun h_18 => ?_) (fun h_18 => ?_)
  · have H := ift h_18 H
    refine k_seq ?_
    refine k_region ?_
    refine sv (v := .bool true) rfl rfl rfl (e_assign rfl) ?_
    refine k_nil ?_
    refine k_ret ?_
    obtain rfl := Option.some.inj H
    exact k_end rfl (.tmp rfl rfl .nil) rfl ⟨rfl, (hp_14).aft⟩
  have H := iff_ h_18 H
  refine k_skip ?_
  refine k_seq ?_
  refine k_region ?_
  refine sv (v := .slice A_1 a0.length c_2) rfl rfl rfl (e_move (tm rfl rfl)) ?_
  refine sv (v := .int .i64 a1) rfl rfl rfl (e_move (tm rfl rfl)) ?_
  refine sv (v := .int .i64 a2) rfl rfl rfl (e_move (tm rfl rfl)) ?_
  refine sv (v := .slice A_4 a3.length c_5) rfl rfl rfl (e_move (tm rfl rfl)) ?_
  obtain ⟨r_21, hx_20, H⟩ := bindSome H
  refine s_call (.cons (tm rfl rfl) (.cons (tm rfl rfl) (.cons (tm rfl rfl) (.cons (tm rfl rfl) .nil)))) Try.call11 (thread_Do.calls a0 A_1 c_2 a1 a2 a3 A_4 c_5 r_21 _ _ (Hp.offCov hp_14 [] [] rfl) (RdS.pass q_3 hp_14) (RdS.pass q_6 hp_14) hx_20) rfl ?_
  rintro v_ w_22 ⟨A_26, c_27, X_29, rfl, q_28, af_25⟩
  have hp_23 := Hp.callA af_25 hp_14
  refine s_alloc (zv := .agg #[.slice none 0 0, .int .i64 0]) (l := [.slice none 0 0, .int .i64 0]) hp_23 (by intro w_; kernel_rfl) rfl rfl (fun b_30 w_31 hp_32 => ?_)
  refine s_store (i := 1) (j := 0) (vs := [.slice A_26 r_21.Events.length c_27, .int .i64 r_21.Status]) (l' := [.slice A_26 r_21.Events.length c_27, .int .i64 r_21.Status]) hp_32 (tm rfl rfl) (tm rfl rfl) rfl Try.sizeOf28 rfl rfl rfl rfl rfl rfl (fun w_33 hp_34 => ?_)
  refine k_nil ?_
  refine k_seq ?_
  refine k_region ?_
  refine sv (v := .slice A_1 a0.length c_2) rfl rfl rfl (e_move (tm rfl rfl)) ?_
  refine sv (v := .int .i64 a1) rfl rfl rfl (e_move (tm rfl rfl)) ?_
  refine sv (v := .int .i64 a2) rfl rfl rfl (e_move (tm rfl rfl)) ?_
  refine s_buildSlice0 (intE .i64) no wz hp_34 Try.runUnderlying23 Try.sizeOf2 rfl (fun A_35 c_36 w_37 X_38 hp_39 O_40 => ?_)
  refine sv (v := .slice A_4 a3.length c_5) rfl rfl rfl (e_move (tm rfl rfl)) ?_
  obtain ⟨g_41, H⟩ := grd H
  refine s_append (E := (intE .i64)) (F := no) (wf := wz) (xs := ([] : List Int)) (ys := a3) (r := 2) hp_39 (tm rfl rfl) (tm rfl rfl) Try.underlying23 rfl rfl rfl rfl rfl rfl rfl O_40 (RdS.srcF q_6 (fun h => h) hp_39) g_41 rfl (fun A_42 c_43 w_44 X_45 hp_46 O_47 => ?_)
  refine sv (v := .slice A_7 a4.length c_8) rfl rfl rfl (e_move (tm rfl rfl)) ?_
  obtain ⟨g_48, H⟩ := grd H
  refine s_append (E := (intE .i64)) (F := no) (wf := wz) (xs := (([] : List Int) ++ a3)) (ys := a4) (r := 2) hp_46 (tm rfl rfl) (tm rfl rfl) Try.underlying23 rfl rfl rfl rfl rfl rfl rfl O_47 (RdS.srcF q_9 (fun h => h) hp_46) g_48 rfl (fun A_49 c_50 w_51 X_52 hp_53 O_54 => ?_)
  obtain ⟨r_57, hx_56, H⟩ := bindSome H
  refine s_call (.cons (tm rfl rfl) (.cons (tm rfl rfl) (.cons (tm rfl rfl) (.cons (tm rfl rfl) .nil)))) Try.call11 (thread_Do.calls a0 A_1 c_2 a1 a2 ((([] : List Int) ++ a3) ++ a4) A_49 c_50 r_57 _ _ (Hp.offCov hp_53 [] [X_29, [(b_30, .cells #[.slice A_26 r_21.Events.length c_27, .int .i64 r_21.Status] 28 (0, 0))], X_52] rfl) (RdS.pass q_3 hp_53) (Own.pass (Own.any O_54) hp_53 (subRest [] [X_29, [(b_30, .cells #[.slice A_26 r_21.Events.length c_27, .int .i64 r_21.Status] 28 (0, 0))], X_52] rfl) (i := 2) rfl) hx_56) rfl ?_
  rintro v_ w_58 ⟨A_62, c_63, X_65, rfl, q_64, af_61⟩
  have hp_59 := Hp.callA af_61 hp_53
  refine s_alloc (zv := .agg #[.slice none 0 0, .int .i64 0]) (l := [.slice none 0 0, .int .i64 0]) hp_59 (by intro w_; kernel_rfl) rfl rfl (fun b_66 w_67 hp_68 => ?_)
  refine s_store (i := 4) (j := 0) (vs := [.slice A_62 r_57.Events.length c_63, .int .i64 r_57.Status]) (l' := [.slice A_62 r_57.Events.length c_63, .int .i64 r_57.Status]) hp_68 (tm rfl rfl) (tm rfl rfl) rfl Try.sizeOf28 rfl rfl rfl rfl rfl rfl (fun w_69 hp_70 => ?_)
  refine k_nil ?_
  refine k_seq ?_
  refine k_seq ?_
  refine k_region ?_
  refine sv (v := .pointer (some ⟨b_30, 1, none⟩)) rfl rfl rfl (e_fieldAddr (tm rfl rfl) Try.runUnderlying28 rfl Try.sizeOf3 rfl rfl) ?_
  refine sv (v := .int .i64 r_21.Status) rfl rfl rfl (e_load1 (tm rfl rfl) Try.isAgg3 (cell_atL (hp_70.get (i := 2) (j := 0) rfl rfl) rfl)) ?_
  refine sv (v := .bool (!decide (r_21.Status = 4))) rfl rfl rfl (e_bin (tm rfl rfl) rfl (r_neq rfl)) ?_
  refine k_nil ?_
  refine k_if (tm rfl rfl) (fun h_71 => ?_) (fun h_71 => ?_)
  · have H := ift h_71 H
    refine k_seq ?_
    refine k_region ?_
    refine sv (v := .agg #[.slice A_26 r_21.Events.length c_27, .int .i64 r_21.Status]) rfl rfl rfl (e_loadA (tm rfl rfl) Try.isAgg28 Try.sizeOf28 rfl (cells_box (sz := 2) (hp_70.get (i := 2) (j := 0) rfl rfl) rfl)) ?_
    refine sv (v := .agg #[.slice A_62 r_57.Events.length c_63, .int .i64 r_57.Status]) rfl rfl rfl (e_loadA (tm rfl rfl) Try.isAgg28 Try.sizeOf28 rfl (cells_box (sz := 2) (hp_70.get (i := 4) (j := 0) rfl rfl) rfl)) ?_
    obtain ⟨r_74, hx_73, H⟩ := bindSome H
    refine s_call (.cons (tm rfl rfl) (.cons (tm rfl rfl) .nil)) Try.call10 (selvageref16_Same.calls r_21 A_26 c_27 r_57 A_62 c_63 r_74 _ _ (Hp.offCov hp_70 [] [X_65, X_29, [(b_30, .cells #[.slice A_26 r_21.Events.length c_27, .int .i64 r_21.Status] 28 (0, 0))], X_52, [(b_66, .cells #[.slice A_62 r_57.Events.length c_63, .int .i64 r_57.Status] 28 (0, 0))]] rfl) (Own.pass (Own.any q_28) hp_70 (subRest [] [X_65, X_29, [(b_30, .cells #[.slice A_26 r_21.Events.length c_27, .int .i64 r_21.Status] 28 (0, 0))], X_52, [(b_66, .cells #[.slice A_62 r_57.Events.length c_63, .int .i64 r_57.Status] 28 (0, 0))]] rfl) (i := 1) rfl) (Own.pass (Own.any q_64) hp_70 (subRest [] [X_65, X_29, [(b_30, .cells #[.slice A_26 r_21.Events.length c_27, .int .i64 r_21.Status] 28 (0, 0))], X_52, [(b_66, .cells #[.slice A_62 r_57.Events.length c_63, .int .i64 r_57.Status] 28 (0, 0))]] rfl) (i := 0) rfl) hx_73) rfl ?_
    rintro v_ w_75 ⟨rfl, af_78⟩
    have hp_76 := Hp.callA af_78 hp_70
    refine sv (v := .bool r_74) rfl rfl rfl (e_assign (tm rfl rfl)) ?_
    refine k_nil ?_
    refine k_ret ?_
    obtain rfl := Option.some.inj H
    exact k_end rfl (.tmp rfl rfl .nil) rfl ⟨rfl, (hp_76.pick [] (by decide) rfl).aft⟩
  have H := iff_ h_71 H
  refine k_skip ?_
  refine k_seq ?_
  obtain ⟨o_79, H, G_80⟩ := bindSome H
  refine k_cut (fun a w' => ∃ (σ_102 : Nat → Value), a = st 68 [(10, .bool o_79)] σ_102 [] ∧ Hp (On []) F w w w' []) ?_ ?_
  · as_aux_lemma =>
      rcases Bool.eq_false_or_eq_true (decide ((r_57.Events.length : Int) ≥ (r_21.Events.length : Int))) with h_81 | h_81
      · have H := ift h_81 H
        refine k_any (WF F w [X_65, X_29, [(b_30, .cells #[.slice A_26 r_21.Events.length c_27, .int .i64 r_21.Status] 28 (0, 0))], X_52, [(b_66, .cells #[.slice A_62 r_57.Events.length c_63, .int .i64 r_57.Status] 28 (0, 0))]] [[0, 1, 2, 3, 4], [0, 1, 2, 3, 4], [0, 1, 2, 3, 4], [0, 1, 2, 3, 4], [0, 1, 2, 3, 4], [0, 1, 2, 3, 4], [0, 1, 2, 3, 4], [0, 1, 2, 3, 4], [0, 1, 2, 3, 4], [0, 1, 2, 3, 4], [0, 1, 2, 3, 4], [0, 1, 2, 3, 4], [0, 1, 2, 3, 4], [0, 1, 2, 3, 4], [0, 1, 2, 3, 4], [0, 1, 2, 3, 4], [0, 1, 2, 3, 4], [0, 1, 2, 3, 4], [0, 1, 2, 3, 4], [0, 1, 2, 3, 4], [0, 1, 2, 3, 4]] [0, 1, 3, 0, 8, 24, 63, 127, 255, 511, 255, 1279, 3327, 8191, 16383, 255, 33023, 98559, 262143, 524287, 1048575]) mixed hp_70 21 (by kernel_rfl) (fun w_82 hp_83 => ?_)
        refine w_take (m' := 1) (v := .pointer (some ⟨b_66, 0, none⟩)) 0 rfl rfl (by kernel_rfl) (by kernel_rfl) (by kernel_rfl) (by kernel_rfl) (by kernel_rfl) (by kernel_rfl) (by kernel_rfl) (po_then po_body) (Wp.of hp_83 [0, 1, 2, 3, 4] rfl) (y_val (fun w_ hW_ => e_fieldAddr (tm rfl rfl) Try.runUnderlying28 rfl Try.sizeOf26 rfl rfl)) ?_
        refine w_take (m' := 9) (v := .pointer (some ⟨b_30, 0, none⟩)) 3 rfl rfl (by kernel_rfl) (by kernel_rfl) (by kernel_rfl) (by kernel_rfl) (by kernel_rfl) (by kernel_rfl) (by kernel_rfl) (po_then po_body) (Wp.of hp_83 [0, 1, 2, 3, 4] rfl) (y_val (fun w_ hW_ => e_fieldAddr (tm rfl rfl) Try.runUnderlying28 rfl Try.sizeOf26 rfl rfl)) ?_
        refine w_take (m' := 11) (v := .slice A_62 r_57.Events.length c_63) 1 rfl rfl (by kernel_rfl) (by kernel_rfl) (by kernel_rfl) (by kernel_rfl) (by kernel_rfl) (by kernel_rfl) (by kernel_rfl) (po_then po_body) (Wp.of hp_83 [0, 1, 2, 3, 4] rfl) (y_val (fun w_ hW_ => e_load1 (tm rfl rfl) Try.isAgg26 (cell_atL (hW_.get (i := 4) (j := 0) rfl rfl) rfl))) ?_
        refine w_take (m' := 15) (v := .int .i64 (r_57.Events.length : Int)) 2 rfl rfl (by kernel_rfl) (by kernel_rfl) (by kernel_rfl) (by kernel_rfl) (by kernel_rfl) (by kernel_rfl) (by kernel_rfl) (po_then po_body) (Wp.of hp_83 [0, 1, 2, 3, 4] rfl) (y_val (fun w_ hW_ => e_builtin (.cons (tm rfl rfl) .nil) (r_lens Try.runUnderlying26))) ?_
        refine w_take (m' := 31) (v := .slice A_26 r_21.Events.length c_27) 4 rfl rfl (by kernel_rfl) (by kernel_rfl) (by kernel_rfl) (by kernel_rfl) (by kernel_rfl) (by kernel_rfl) (by kernel_rfl) (po_then po_body) (Wp.of hp_83 [0, 1, 2, 3, 4] rfl) (y_val (fun w_ hW_ => e_load1 (tm rfl rfl) Try.isAgg26 (cell_atL (hW_.get (i := 2) (j := 0) rfl rfl) rfl))) ?_
        refine w_take (m' := 63) (v := .int .i64 (r_21.Events.length : Int)) 5 rfl rfl (by kernel_rfl) (by kernel_rfl) (by kernel_rfl) (by kernel_rfl) (by kernel_rfl) (by kernel_rfl) (by kernel_rfl) (po_then po_body) (Wp.of hp_83 [0, 1, 2, 3, 4] rfl) (y_val (fun w_ hW_ => e_builtin (.cons (tm rfl rfl) .nil) (r_lens Try.runUnderlying26))) ?_
        refine w_take (m' := 127) (v := .bool (decide ((r_57.Events.length : Int) ≥ (r_21.Events.length : Int)))) 6 rfl rfl (by kernel_rfl) (by kernel_rfl) (by kernel_rfl) (by kernel_rfl) (by kernel_rfl) (by kernel_rfl) (by kernel_rfl) (po_then po_body) (Wp.of hp_83 [0, 1, 2, 3, 4] rfl) (y_val (fun w_ hW_ => e_bin (tm rfl rfl) (tm rfl rfl) (r_geq rfl))) ?_
        refine w_take (m' := 255) (v := .bool (decide ((r_57.Events.length : Int) ≥ (r_21.Events.length : Int)))) 7 rfl rfl (by kernel_rfl) (by kernel_rfl) (by kernel_rfl) (by kernel_rfl) (by kernel_rfl) (by kernel_rfl) (by kernel_rfl) (po_then po_body) (Wp.of hp_83 [0, 1, 2, 3, 4] rfl) (y_val (fun w_ hW_ => e_move (tm rfl rfl))) ?_
        refine w_take (m' := 511) (v := .pointer (some ⟨b_66, 0, none⟩)) 8 rfl rfl (by kernel_rfl) (by kernel_rfl) (by kernel_rfl) (by kernel_rfl) (by kernel_rfl) (by kernel_rfl) (by kernel_rfl) (po_then po_body) (Wp.of hp_83 [0, 1, 2, 3, 4] rfl) (y_on rfl rfl (congrArg Value.bool h_81) (fun w_ hW_ => e_fieldAddr (tm rfl rfl) Try.runUnderlying28 rfl Try.sizeOf26 rfl rfl)) ?_
        refine w_take (m' := 1535) (v := .pointer (some ⟨b_30, 0, none⟩)) 10 rfl rfl (by kernel_rfl) (by kernel_rfl) (by kernel_rfl) (by kernel_rfl) (by kernel_rfl) (by kernel_rfl) (by kernel_rfl) (po_then po_body) (Wp.of hp_83 [0, 1, 2, 3, 4] rfl) (y_on rfl rfl (congrArg Value.bool h_81) (fun w_ hW_ => e_fieldAddr (tm rfl rfl) Try.runUnderlying28 rfl Try.sizeOf26 rfl rfl)) ?_
        refine w_take (m' := 34303) (v := .pointer (some ⟨b_30, 0, none⟩)) 15 rfl rfl (by kernel_rfl) (by kernel_rfl) (by kernel_rfl) (by kernel_rfl) (by kernel_rfl) (by kernel_rfl) (by kernel_rfl) (po_then po_body) (Wp.of hp_83 [0, 1, 2, 3, 4] rfl) (y_on rfl rfl (congrArg Value.bool h_81) (fun w_ hW_ => e_fieldAddr (tm rfl rfl) Try.runUnderlying28 rfl Try.sizeOf26 rfl rfl)) ?_
        refine w_take (m' := 34815) (v := .slice A_62 r_57.Events.length c_63) 9 rfl rfl (by kernel_rfl) (by kernel_rfl) (by kernel_rfl) (by kernel_rfl) (by kernel_rfl) (by kernel_rfl) (by kernel_rfl) (po_then po_body) (Wp.of hp_83 [0, 1, 2, 3, 4] rfl) (y_on rfl rfl (congrArg Value.bool h_81) (fun w_ hW_ => e_load1 (tm rfl rfl) Try.isAgg26 (cell_atL (hW_.get (i := 4) (j := 0) rfl rfl) rfl))) ?_
        refine w_take (m' := 36863) (v := .slice A_26 r_21.Events.length c_27) 11 rfl rfl (by kernel_rfl) (by kernel_rfl) (by kernel_rfl) (by kernel_rfl) (by kernel_rfl) (by kernel_rfl) (by kernel_rfl) (po_then po_body) (Wp.of hp_83 [0, 1, 2, 3, 4] rfl) (y_on rfl rfl (congrArg Value.bool h_81) (fun w_ hW_ => e_load1 (tm rfl rfl) Try.isAgg26 (cell_atL (hW_.get (i := 2) (j := 0) rfl rfl) rfl))) ?_
        refine w_take (m' := 40959) (v := .int .i64 (r_21.Events.length : Int)) 12 rfl rfl (by kernel_rfl) (by kernel_rfl) (by kernel_rfl) (by kernel_rfl) (by kernel_rfl) (by kernel_rfl) (by kernel_rfl) (po_then po_body) (Wp.of hp_83 [0, 1, 2, 3, 4] rfl) (y_on rfl rfl (congrArg Value.bool h_81) (fun w_ hW_ => e_builtin (.cons (tm rfl rfl) .nil) (r_lens Try.runUnderlying26))) ?_
        refine w_take (m' := 106495) (v := .slice A_26 r_21.Events.length c_27) 16 rfl rfl (by kernel_rfl) (by kernel_rfl) (by kernel_rfl) (by kernel_rfl) (by kernel_rfl) (by kernel_rfl) (by kernel_rfl) (po_then po_body) (Wp.of hp_83 [0, 1, 2, 3, 4] rfl) (y_on rfl rfl (congrArg Value.bool h_81) (fun w_ hW_ => e_load1 (tm rfl rfl) Try.isAgg26 (cell_atL (hW_.get (i := 2) (j := 0) rfl rfl) rfl))) ?_
        refine w_take (m' := 237567) (v := .agg #[.slice A_26 r_21.Events.length c_27, .int .i64 0]) 17 rfl rfl (by kernel_rfl) (by kernel_rfl) (by kernel_rfl) (by kernel_rfl) (by kernel_rfl) (by kernel_rfl) (by kernel_rfl) (po_then po_body) (Wp.of hp_83 [0, 1, 2, 3, 4] rfl) (y_on rfl rfl (congrArg Value.bool h_81) (fun w_ hW_ => e_build (vs := [(0, .slice A_26 r_21.Events.length c_27)]) (cs := [.slice A_26 r_21.Events.length c_27, .int .i64 0]) (.cons (tm rfl rfl) .nil) (by kernel_rfl))) ?_
        refine w_one (m' := 245759) 13 rfl (by kernel_rfl) (by kernel_rfl) ?_
        refine gon rfl rfl (congrArg Value.bool h_81) ?_
        obtain ⟨g_84, H⟩ := grd H
        obtain ⟨A_85, q_86, ct_87⟩ := ct_O (kh := .i64) (h := (r_21.Events.length : Int)) (t := 26) Try.runUnderlying26 Try.sizeOf33 g_84 q_64
        refine sv (v := .slice A_85 (r_57.Events.take ((r_21.Events.length : Int) : Int).toNat).length c_63) rfl rfl rfl (ct_87 (tm rfl rfl) (.inl (congrArg some (tm rfl rfl)))) ?_
        refine k_nil ?_
        refine ⟨(Wp.of hp_83 [0, 1, 2, 3, 4] rfl), ?_⟩
        refine w_take (m' := 262143) (v := .agg #[.slice A_85 (r_57.Events.take ((r_21.Events.length : Int) : Int).toNat).length c_63, .int .i64 0]) 14 rfl rfl (by kernel_rfl) (by kernel_rfl) (by kernel_rfl) (by kernel_rfl) (by kernel_rfl) (by kernel_rfl) (by kernel_rfl) (po_then po_body) (Wp.of hp_83 [0, 1, 2, 3, 4] rfl) (y_on rfl rfl (congrArg Value.bool h_81) (fun w_ hW_ => e_build (vs := [(0, .slice A_85 (r_57.Events.take ((r_21.Events.length : Int) : Int).toNat).length c_63)]) (cs := [.slice A_85 (r_57.Events.take ((r_21.Events.length : Int) : Int).toNat).length c_63, .int .i64 0]) (.cons (tm rfl rfl) .nil) (by kernel_rfl))) ?_
        refine w_one (m' := 524287) 18 rfl (by kernel_rfl) (by kernel_rfl) ?_
        refine gon rfl rfl (congrArg Value.bool h_81) ?_
        obtain ⟨r_90, hx_89, H⟩ := bindSome H
        refine s_call (.cons (tm rfl rfl) (.cons (tm rfl rfl) .nil)) Try.call10 (selvageref16_Same.calls (⟨(r_57.Events.take ((r_21.Events.length : Int) : Int).toNat), 0⟩ : api_Run) A_85 c_63 (⟨r_21.Events, 0⟩ : api_Run) A_26 c_27 r_90 _ _ (Hp.offCov hp_83 [] [X_65, X_29, [(b_30, .cells #[.slice A_26 r_21.Events.length c_27, .int .i64 r_21.Status] 28 (0, 0))], X_52, [(b_66, .cells #[.slice A_62 r_57.Events.length c_63, .int .i64 r_57.Status] 28 (0, 0))]] rfl) (Own.pass (Own.any q_86) hp_83 (subRest [] [X_65, X_29, [(b_30, .cells #[.slice A_26 r_21.Events.length c_27, .int .i64 r_21.Status] 28 (0, 0))], X_52, [(b_66, .cells #[.slice A_62 r_57.Events.length c_63, .int .i64 r_57.Status] 28 (0, 0))]] rfl) (i := 0) rfl) (Own.pass (Own.any q_28) hp_83 (subRest [] [X_65, X_29, [(b_30, .cells #[.slice A_26 r_21.Events.length c_27, .int .i64 r_21.Status] 28 (0, 0))], X_52, [(b_66, .cells #[.slice A_62 r_57.Events.length c_63, .int .i64 r_57.Status] 28 (0, 0))]] rfl) (i := 1) rfl) hx_89) rfl ?_
        rintro v_ w_91 ⟨rfl, af_94⟩
        have hp_92 := Hp.callA af_94 hp_83
        refine k_nil ?_
        refine ⟨(Wp.of hp_92 [0, 1, 2, 3, 4] rfl), ?_⟩
        refine w_take (m' := 1048575) (v := .bool r_90) 19 rfl rfl (by kernel_rfl) (by kernel_rfl) (by kernel_rfl) (by kernel_rfl) (by kernel_rfl) (by kernel_rfl) (by kernel_rfl) (po_then po_body) (Wp.of hp_92 [0, 1, 2, 3, 4] rfl) (y_val (fun w_ hW_ => e_pick (b := decide ((r_57.Events.length : Int) ≥ (r_21.Events.length : Int))) (v1 := .bool r_90) (v2 := .bool r_90) (tm rfl rfl) (fun _ => (tm rfl rfl)) (fun h_ => pk_no h_ h_81) (pk_same _ _))) ?_
        refine w_take (m' := 2097151) (v := .bool r_90) 20 rfl rfl (by kernel_rfl) (by kernel_rfl) (by kernel_rfl) (by kernel_rfl) (by kernel_rfl) (by kernel_rfl) (by kernel_rfl) (po_then po_body) (Wp.of hp_92 [0, 1, 2, 3, 4] rfl) (y_val (fun w_ hW_ => e_assign (tm rfl rfl))) ?_
        refine w_done (by kernel_rfl) ?_
        obtain rfl := Option.some.inj H
        exact ⟨_, seenF ⟨rfl, trivial⟩, hp_92.pick [] (by decide) rfl⟩
      have H := iff_ h_81 H
      refine k_any (WF F w [X_65, X_29, [(b_30, .cells #[.slice A_26 r_21.Events.length c_27, .int .i64 r_21.Status] 28 (0, 0))], X_52, [(b_66, .cells #[.slice A_62 r_57.Events.length c_63, .int .i64 r_57.Status] 28 (0, 0))]] [[0, 1, 2, 3, 4], [0, 1, 2, 3, 4], [0, 1, 2, 3, 4], [0, 1, 2, 3, 4], [0, 1, 2, 3, 4], [0, 1, 2, 3, 4], [0, 1, 2, 3, 4], [0, 1, 2, 3, 4], [0, 1, 2, 3, 4], [0, 1, 2, 3, 4], [0, 1, 2, 3, 4], [0, 1, 2, 3, 4], [0, 1, 2, 3, 4], [0, 1, 2, 3, 4], [0, 1, 2, 3, 4], [0, 1, 2, 3, 4], [0, 1, 2, 3, 4], [0, 1, 2, 3, 4], [0, 1, 2, 3, 4], [0, 1, 2, 3, 4], [0, 1, 2, 3, 4]] [0, 1, 3, 0, 8, 24, 63, 127, 255, 511, 255, 1279, 3327, 8191, 16383, 255, 33023, 98559, 262143, 524287, 1048575]) mixed hp_70 21 (by kernel_rfl) (fun w_95 hp_96 => ?_)
      refine w_take (m' := 1) (v := .pointer (some ⟨b_66, 0, none⟩)) 0 rfl rfl (by kernel_rfl) (by kernel_rfl) (by kernel_rfl) (by kernel_rfl) (by kernel_rfl) (by kernel_rfl) (by kernel_rfl) (po_then po_body) (Wp.of hp_96 [0, 1, 2, 3, 4] rfl) (y_val (fun w_ hW_ => e_fieldAddr (tm rfl rfl) Try.runUnderlying28 rfl Try.sizeOf26 rfl rfl)) ?_
      refine w_take (m' := 9) (v := .pointer (some ⟨b_30, 0, none⟩)) 3 rfl rfl (by kernel_rfl) (by kernel_rfl) (by kernel_rfl) (by kernel_rfl) (by kernel_rfl) (by kernel_rfl) (by kernel_rfl) (po_then po_body) (Wp.of hp_96 [0, 1, 2, 3, 4] rfl) (y_val (fun w_ hW_ => e_fieldAddr (tm rfl rfl) Try.runUnderlying28 rfl Try.sizeOf26 rfl rfl)) ?_
      refine w_take (m' := 11) (v := .slice A_62 r_57.Events.length c_63) 1 rfl rfl (by kernel_rfl) (by kernel_rfl) (by kernel_rfl) (by kernel_rfl) (by kernel_rfl) (by kernel_rfl) (by kernel_rfl) (po_then po_body) (Wp.of hp_96 [0, 1, 2, 3, 4] rfl) (y_val (fun w_ hW_ => e_load1 (tm rfl rfl) Try.isAgg26 (cell_atL (hW_.get (i := 4) (j := 0) rfl rfl) rfl))) ?_
      refine w_take (m' := 15) (v := .int .i64 (r_57.Events.length : Int)) 2 rfl rfl (by kernel_rfl) (by kernel_rfl) (by kernel_rfl) (by kernel_rfl) (by kernel_rfl) (by kernel_rfl) (by kernel_rfl) (po_then po_body) (Wp.of hp_96 [0, 1, 2, 3, 4] rfl) (y_val (fun w_ hW_ => e_builtin (.cons (tm rfl rfl) .nil) (r_lens Try.runUnderlying26))) ?_
      refine w_take (m' := 31) (v := .slice A_26 r_21.Events.length c_27) 4 rfl rfl (by kernel_rfl) (by kernel_rfl) (by kernel_rfl) (by kernel_rfl) (by kernel_rfl) (by kernel_rfl) (by kernel_rfl) (po_then po_body) (Wp.of hp_96 [0, 1, 2, 3, 4] rfl) (y_val (fun w_ hW_ => e_load1 (tm rfl rfl) Try.isAgg26 (cell_atL (hW_.get (i := 2) (j := 0) rfl rfl) rfl))) ?_
      refine w_take (m' := 63) (v := .int .i64 (r_21.Events.length : Int)) 5 rfl rfl (by kernel_rfl) (by kernel_rfl) (by kernel_rfl) (by kernel_rfl) (by kernel_rfl) (by kernel_rfl) (by kernel_rfl) (po_then po_body) (Wp.of hp_96 [0, 1, 2, 3, 4] rfl) (y_val (fun w_ hW_ => e_builtin (.cons (tm rfl rfl) .nil) (r_lens Try.runUnderlying26))) ?_
      refine w_take (m' := 127) (v := .bool (decide ((r_57.Events.length : Int) ≥ (r_21.Events.length : Int)))) 6 rfl rfl (by kernel_rfl) (by kernel_rfl) (by kernel_rfl) (by kernel_rfl) (by kernel_rfl) (by kernel_rfl) (by kernel_rfl) (po_then po_body) (Wp.of hp_96 [0, 1, 2, 3, 4] rfl) (y_val (fun w_ hW_ => e_bin (tm rfl rfl) (tm rfl rfl) (r_geq rfl))) ?_
      refine w_take (m' := 255) (v := .bool (decide ((r_57.Events.length : Int) ≥ (r_21.Events.length : Int)))) 7 rfl rfl (by kernel_rfl) (by kernel_rfl) (by kernel_rfl) (by kernel_rfl) (by kernel_rfl) (by kernel_rfl) (by kernel_rfl) (po_then po_body) (Wp.of hp_96 [0, 1, 2, 3, 4] rfl) (y_val (fun w_ hW_ => e_move (tm rfl rfl))) ?_
      refine w_take (m' := 511) (v := undef) 8 rfl rfl (by kernel_rfl) (by kernel_rfl) (by kernel_rfl) (by kernel_rfl) (by kernel_rfl) (by kernel_rfl) (by kernel_rfl) (po_then po_body) (Wp.of hp_96 [0, 1, 2, 3, 4] rfl) (y_off rfl rfl (congrArg Value.bool h_81)) ?_
      refine w_take (m' := 1023) (v := undef) 9 rfl rfl (by kernel_rfl) (by kernel_rfl) (by kernel_rfl) (by kernel_rfl) (by kernel_rfl) (by kernel_rfl) (by kernel_rfl) (po_then po_body) (Wp.of hp_96 [0, 1, 2, 3, 4] rfl) (y_off rfl rfl (congrArg Value.bool h_81)) ?_
      refine w_take (m' := 2047) (v := undef) 10 rfl rfl (by kernel_rfl) (by kernel_rfl) (by kernel_rfl) (by kernel_rfl) (by kernel_rfl) (by kernel_rfl) (by kernel_rfl) (po_then po_body) (Wp.of hp_96 [0, 1, 2, 3, 4] rfl) (y_off rfl rfl (congrArg Value.bool h_81)) ?_
      refine w_take (m' := 4095) (v := undef) 11 rfl rfl (by kernel_rfl) (by kernel_rfl) (by kernel_rfl) (by kernel_rfl) (by kernel_rfl) (by kernel_rfl) (by kernel_rfl) (po_then po_body) (Wp.of hp_96 [0, 1, 2, 3, 4] rfl) (y_off rfl rfl (congrArg Value.bool h_81)) ?_
      refine w_take (m' := 8191) (v := undef) 12 rfl rfl (by kernel_rfl) (by kernel_rfl) (by kernel_rfl) (by kernel_rfl) (by kernel_rfl) (by kernel_rfl) (by kernel_rfl) (po_then po_body) (Wp.of hp_96 [0, 1, 2, 3, 4] rfl) (y_off rfl rfl (congrArg Value.bool h_81)) ?_
      refine w_take (m' := 16383) (v := undef) 13 rfl rfl (by kernel_rfl) (by kernel_rfl) (by kernel_rfl) (by kernel_rfl) (by kernel_rfl) (by kernel_rfl) (by kernel_rfl) (po_then po_body) (Wp.of hp_96 [0, 1, 2, 3, 4] rfl) (y_off rfl rfl (congrArg Value.bool h_81)) ?_
      refine w_take (m' := 32767) (v := undef) 14 rfl rfl (by kernel_rfl) (by kernel_rfl) (by kernel_rfl) (by kernel_rfl) (by kernel_rfl) (by kernel_rfl) (by kernel_rfl) (po_then po_body) (Wp.of hp_96 [0, 1, 2, 3, 4] rfl) (y_off rfl rfl (congrArg Value.bool h_81)) ?_
      refine w_take (m' := 65535) (v := undef) 15 rfl rfl (by kernel_rfl) (by kernel_rfl) (by kernel_rfl) (by kernel_rfl) (by kernel_rfl) (by kernel_rfl) (by kernel_rfl) (po_then po_body) (Wp.of hp_96 [0, 1, 2, 3, 4] rfl) (y_off rfl rfl (congrArg Value.bool h_81)) ?_
      refine w_take (m' := 131071) (v := undef) 16 rfl rfl (by kernel_rfl) (by kernel_rfl) (by kernel_rfl) (by kernel_rfl) (by kernel_rfl) (by kernel_rfl) (by kernel_rfl) (po_then po_body) (Wp.of hp_96 [0, 1, 2, 3, 4] rfl) (y_off rfl rfl (congrArg Value.bool h_81)) ?_
      refine w_take (m' := 262143) (v := undef) 17 rfl rfl (by kernel_rfl) (by kernel_rfl) (by kernel_rfl) (by kernel_rfl) (by kernel_rfl) (by kernel_rfl) (by kernel_rfl) (po_then po_body) (Wp.of hp_96 [0, 1, 2, 3, 4] rfl) (y_off rfl rfl (congrArg Value.bool h_81)) ?_
      refine w_one (m' := 524287) 18 rfl (by kernel_rfl) (by kernel_rfl) ?_
      refine goff rfl rfl (congrArg Value.bool h_81) rfl ?_
      refine k_nil ?_
      refine ⟨(Wp.of hp_96 [0, 1, 2, 3, 4] rfl), ?_⟩
      refine w_take (m' := 1048575) (v := .bool false) 19 rfl rfl (by kernel_rfl) (by kernel_rfl) (by kernel_rfl) (by kernel_rfl) (by kernel_rfl) (by kernel_rfl) (by kernel_rfl) (po_then po_body) (Wp.of hp_96 [0, 1, 2, 3, 4] rfl) (y_val (fun w_ hW_ => e_pick (b := decide ((r_57.Events.length : Int) ≥ (r_21.Events.length : Int))) (v1 := .bool false) (v2 := .bool false) (tm rfl rfl) (fun h_ => pk_no h_81 h_) (fun _ => rfl) (pk_same _ _))) ?_
      refine w_take (m' := 2097151) (v := .bool false) 20 rfl rfl (by kernel_rfl) (by kernel_rfl) (by kernel_rfl) (by kernel_rfl) (by kernel_rfl) (by kernel_rfl) (by kernel_rfl) (po_then po_body) (Wp.of hp_96 [0, 1, 2, 3, 4] rfl) (y_val (fun w_ hW_ => e_assign (tm rfl rfl))) ?_
      refine w_done (by kernel_rfl) ?_
      obtain rfl := Option.some.inj H
      exact ⟨_, seenF ⟨rfl, trivial⟩, hp_96.pick [] (by decide) rfl⟩
  clear H
  rintro a w' ⟨σ_97, rfl, hp_98⟩
  have H := G_80
  refine k_ret ?_
  obtain rfl := Option.some.inj H
  exact k_end rfl (.tmp rfl rfl .nil) rfl ⟨rfl, (hp_98).aft⟩

end Go.Proofs.Ytcnchjlomcafeaa.W

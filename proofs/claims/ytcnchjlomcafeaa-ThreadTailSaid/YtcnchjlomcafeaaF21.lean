/- Functions of the program as plain Lean functions, and that the calls do what they say: written by w2.py. -/
import Derived.Test.YtcnchjlomcafeaaDefer
import Derived.Test.YtcnchjlomcafeaaTy
import Derived.Test.YtcnchjlomcafeaaF18
import Derived.Test.YtcnchjlomcafeaaF19
import Derived.Test.YtcnchjlomcafeaaF20
set_option linter.unusedVariables false
set_option linter.unusedSimpArgs false
set_option linter.unusedSectionVars false
namespace Go.Proofs.Ytcnchjlomcafeaa.W
open Go Go.RowKit Go.Proofs.Ytcnchjlomcafeaa.B
attribute [local irreducible] Go.wpList Go.Code.wp Go.Region.wanted Go.yielded
/-! ### selvage/selvagelaw16.ThreadTail: function 6 -/
def selvagelaw16_ThreadTail.m (a0 : List api_Inst) (a1 : List api_Inst) (a2 : Int) (a3 : Int) (a4 : List Int) : Option Bool :=
  (selvagelaw16_awake.m).bind fun r_12 => (if (!r_12) = true then (some false) else (if (((decide ((a0.length : Int) > 150)) || (decide ((a1.length : Int) > 150))) || (decide ((a4.length : Int) > 100))) = true then (some true) else ((thread_Do.m a0 a2 a3 a4).bind fun r_21 => (if ((decide (r_21.Status = 6)) || (decide (r_21.Status = 0))) = true then (some true) else (if (([] : List api_Inst).length + a0.length) * 40 ≤ 140737488355328 then (if ((([] : List api_Inst) ++ a0).length + a1.length) * 40 ≤ 140737488355328 then ((thread_Do.m ((([] : List api_Inst) ++ a0) ++ a1) a2 a3 a4).bind fun r_58 => ((if (decide (r_58.Status = 0)) = true then (some true) else ((selvageref16_Same.m r_21 r_58).bind fun r_77 => (some r_77)) : Option Bool).bind fun o_72 => some o_72)) else none) else none)))))
set_option maxHeartbeats 4000000 in
set_option maxRecDepth 100000 in
theorem selvagelaw16_ThreadTail.calls (a0 : List api_Inst) (A_1 : Option Addr) (c_2 : Nat) (a1 : List api_Inst) (A_4 : Option Addr) (c_5 : Nat) (a2 : Int) (a3 : Int) (a4 : List Int) (A_7 : Option Addr) (c_8 : Nat) (r : Bool) (w : World) (F : Nat → Prop) (hF : ∀ k, F k → Off w [] k) (q_3 : RdS api_Inst_E F w A_1 c_2 a0) (q_6 : RdS api_Inst_E F w A_4 c_5 a1) (q_9 : RdS (intE .i64) F w A_7 c_8 a4) (H : selvagelaw16_ThreadTail.m a0 a1 a2 a3 a4 = some r) :
    Ret Try.prog 6 [.slice A_1 a0.length c_2, .slice A_4 a1.length c_5, .int .i64 a2, .int .i64 a3, .slice A_7 a4.length c_8] w fun v w' => v = .bool r ∧ Aft w w' [] [] := by
  unfold selvagelaw16_ThreadTail.m at H
  have hp0 := Hp.startR (R := []) (Have.nil w) hF
  have ep0 := Ep.refl F [] w
  refine enter (L := [(0, .slice A_1 a0.length c_2), (1, .slice A_4 a1.length c_5), (2, .int .i64 a2), (3, .int .i64 a3), (4, .slice A_7 a4.length c_8)]) Try.func6 rfl Try.ntmps6 rfl rfl ?_
  refine k_seq ?_
  refine k_region ?_
  refine sv (v := .bool false) rfl rfl rfl (e_assign rfl) ?_
  refine k_nil ?_
  refine k_seq ?_
  refine k_seq ?_
  refine k_region ?_
  obtain ⟨r_12, hx_11, H⟩ := bindSome H
  refine s_call .nil Try.call9 (selvagelaw16_awake.calls r_12 _ hx_11) rfl ?_
  rintro v_ w_13 ⟨rfl, af_16⟩
  have hp_14 := Hp.callA af_16 hp0
  refine sv (v := .bool (!r_12)) rfl rfl rfl (e_un (tm rfl rfl) (r_not rfl)) ?_
  refine k_nil ?_
  refine k_if (tm rfl rfl) (fun h_17 => ?_) (fun h_17 => ?_)
  · have H := ift h_17 H
    refine k_seq ?_
    refine k_region ?_
    refine sv (v := .bool false) rfl rfl rfl (e_assign rfl) ?_
    refine k_nil ?_
    refine k_ret ?_
    obtain rfl := Option.some.inj H
    exact k_end rfl (.tmp rfl rfl .nil) rfl ⟨rfl, (hp_14).aft⟩
  have H := iff_ h_17 H
  refine k_skip ?_
  refine k_seq ?_
  refine k_seq ?_
  refine k_region ?_
  refine sv (v := .slice A_1 a0.length c_2) rfl rfl rfl (e_move (tm rfl rfl)) ?_
  refine sv (v := .int .i64 (a0.length : Int)) rfl rfl rfl (e_builtin (.cons (tm rfl rfl) .nil) (r_lens Try.runUnderlying22)) ?_
  refine sv (v := .bool (decide ((a0.length : Int) > 150))) rfl rfl rfl (e_bin (tm rfl rfl) rfl (r_gtr rfl)) ?_
  refine sv (v := .bool (decide ((a0.length : Int) > 150))) rfl rfl rfl (e_move (tm rfl rfl)) ?_
  refine s_gp (v := .slice A_4 a1.length c_5) rfl rfl rfl (beq_f _) (fun g_ => e_move (tm rfl rfl)) rfl ?_
  refine s_gp (v := .int .i64 (a1.length : Int)) rfl rfl rfl (beq_f _) (fun g_ => e_builtin (.cons (tmg (!(decide ((a0.length : Int) > 150))) (.slice A_4 a1.length c_5) rfl rfl g_) .nil) (r_lens Try.runUnderlying22)) rfl ?_
  refine s_gp (v := .bool (decide ((a1.length : Int) > 150))) rfl rfl rfl (beq_f _) (fun g_ => e_bin (tmg (!(decide ((a0.length : Int) > 150))) (.int .i64 (a1.length : Int)) rfl rfl g_) rfl (r_gtr rfl)) rfl ?_
  refine sv (v := .bool ((decide ((a0.length : Int) > 150)) || (decide ((a1.length : Int) > 150)))) rfl rfl rfl (e_pick (v1 := .bool true) (v2 := .bool (decide ((a1.length : Int) > 150))) (tm rfl rfl) (fun _ => rfl) (fun h_ => tmg (!(decide ((a0.length : Int) > 150))) (.bool (decide ((a1.length : Int) > 150))) rfl rfl (nt h_)) (pk_or (decide ((a0.length : Int) > 150)))) ?_
  refine sv (v := .bool ((decide ((a0.length : Int) > 150)) || (decide ((a1.length : Int) > 150)))) rfl rfl rfl (e_move (tm rfl rfl)) ?_
  refine s_gp (v := .slice A_7 a4.length c_8) rfl rfl rfl (beq_f _) (fun g_ => e_move (tm rfl rfl)) rfl ?_
  refine s_gp (v := .int .i64 (a4.length : Int)) rfl rfl rfl (beq_f _) (fun g_ => e_builtin (.cons (tmg (!((decide ((a0.length : Int) > 150)) || (decide ((a1.length : Int) > 150)))) (.slice A_7 a4.length c_8) rfl rfl g_) .nil) (r_lens Try.runUnderlying23)) rfl ?_
  refine s_gp (v := .bool (decide ((a4.length : Int) > 100))) rfl rfl rfl (beq_f _) (fun g_ => e_bin (tmg (!((decide ((a0.length : Int) > 150)) || (decide ((a1.length : Int) > 150)))) (.int .i64 (a4.length : Int)) rfl rfl g_) rfl (r_gtr rfl)) rfl ?_
  refine sv (v := .bool (((decide ((a0.length : Int) > 150)) || (decide ((a1.length : Int) > 150))) || (decide ((a4.length : Int) > 100)))) rfl rfl rfl (e_pick (v1 := .bool true) (v2 := .bool (decide ((a4.length : Int) > 100))) (tm rfl rfl) (fun _ => rfl) (fun h_ => tmg (!((decide ((a0.length : Int) > 150)) || (decide ((a1.length : Int) > 150)))) (.bool (decide ((a4.length : Int) > 100))) rfl rfl (nt h_)) (pk_or ((decide ((a0.length : Int) > 150)) || (decide ((a1.length : Int) > 150))))) ?_
  refine k_nil ?_
  refine k_if (tm rfl rfl) (fun h_18 => ?_) (fun h_18 => ?_)
  · have H := ift h_18 H
    refine k_seq ?_
    refine k_region ?_
    refine sv (v := .bool true) rfl rfl rfl (e_assign rfl) ?_
    refine k_nil ?_
    refine k_ret ?_
    obtain rfl := Option.some.inj H
    exact k_end rfl (.tmp rfl rfl .nil) rfl ⟨rfl, (hp_14).aft⟩
  have H := iff_ h_18 H
  refine k_skip ?_
  refine k_seq ?_
  refine k_region ?_
  refine sv (v := .slice A_1 a0.length c_2) rfl rfl rfl (e_move (tm rfl rfl)) ?_
  refine sv (v := .int .i64 a2) rfl rfl rfl (e_move (tm rfl rfl)) ?_
  refine sv (v := .int .i64 a3) rfl rfl rfl (e_move (tm rfl rfl)) ?_
  refine sv (v := .slice A_7 a4.length c_8) rfl rfl rfl (e_move (tm rfl rfl)) ?_
  obtain ⟨r_21, hx_20, H⟩ := bindSome H
  refine s_call (.cons (tm rfl rfl) (.cons (tm rfl rfl) (.cons (tm rfl rfl) (.cons (tm rfl rfl) .nil)))) Try.call11 (thread_Do.calls a0 A_1 c_2 a2 a3 a4 A_7 c_8 r_21 _ _ (Hp.offCov hp_14 [] [] rfl) (RdS.pass q_3 hp_14) (RdS.pass q_9 hp_14) hx_20) rfl ?_
  rintro v_ w_22 ⟨A_26, c_27, X_29, rfl, q_28, af_25⟩
  have hp_23 := Hp.callA af_25 hp_14
  refine s_alloc (zv := .agg #[.slice none 0 0, .int .i64 0]) (l := [.slice none 0 0, .int .i64 0]) hp_23 (by intro w_; kernel_rfl) rfl rfl (fun b_30 w_31 hp_32 => ?_)
  refine s_store (i := 1) (j := 0) (vs := [.slice A_26 r_21.Events.length c_27, .int .i64 r_21.Status]) (l' := [.slice A_26 r_21.Events.length c_27, .int .i64 r_21.Status]) hp_32 (tm rfl rfl) (tm rfl rfl) rfl Try.sizeOf28 rfl rfl rfl rfl rfl rfl (fun w_33 hp_34 => ?_)
  refine k_nil ?_
  refine k_seq ?_
  refine k_seq ?_
  refine k_region ?_
  refine sv (v := .pointer (some ⟨b_30, 1, none⟩)) rfl rfl rfl (e_fieldAddr (tm rfl rfl) Try.runUnderlying28 rfl Try.sizeOf3 rfl rfl) ?_
  refine sv (v := .int .i64 r_21.Status) rfl rfl rfl (e_load1 (tm rfl rfl) Try.isAgg3 (cell_atL (hp_34.get (i := 1) (j := 0) rfl rfl) rfl)) ?_
  refine sv (v := .bool (decide (r_21.Status = 6))) rfl rfl rfl (e_bin (tm rfl rfl) rfl (r_eql rfl)) ?_
  refine sv (v := .bool (decide (r_21.Status = 6))) rfl rfl rfl (e_move (tm rfl rfl)) ?_
  refine s_gp (v := .pointer (some ⟨b_30, 1, none⟩)) rfl rfl rfl (beq_f _) (fun g_ => e_fieldAddr (tm rfl rfl) Try.runUnderlying28 rfl Try.sizeOf3 rfl rfl) rfl ?_
  refine s_gp (v := .int .i64 r_21.Status) rfl rfl rfl (beq_f _) (fun g_ => e_load1 (tmg (!(decide (r_21.Status = 6))) (.pointer (some ⟨b_30, 1, none⟩)) rfl rfl g_) Try.isAgg3 (cell_atL (hp_34.get (i := 1) (j := 0) rfl rfl) rfl)) rfl ?_
  refine s_gp (v := .bool (decide (r_21.Status = 0))) rfl rfl rfl (beq_f _) (fun g_ => e_bin (tmg (!(decide (r_21.Status = 6))) (.int .i64 r_21.Status) rfl rfl g_) rfl (r_eql rfl)) rfl ?_
  refine sv (v := .bool ((decide (r_21.Status = 6)) || (decide (r_21.Status = 0)))) rfl rfl rfl (e_pick (v1 := .bool true) (v2 := .bool (decide (r_21.Status = 0))) (tm rfl rfl) (fun _ => rfl) (fun h_ => tmg (!(decide (r_21.Status = 6))) (.bool (decide (r_21.Status = 0))) rfl rfl (nt h_)) (pk_or (decide (r_21.Status = 6)))) ?_
  refine k_nil ?_
  refine k_if (tm rfl rfl) (fun h_35 => ?_) (fun h_35 => ?_)
  · have H := ift h_35 H
    refine k_seq ?_
    refine k_region ?_
    refine sv (v := .bool true) rfl rfl rfl (e_assign rfl) ?_
    refine k_nil ?_
    refine k_ret ?_
    obtain rfl := Option.some.inj H
    exact k_end rfl (.tmp rfl rfl .nil) rfl ⟨rfl, (hp_34.pick [] (by decide) rfl).aft⟩
  have H := iff_ h_35 H
  refine k_skip ?_
  refine k_seq ?_
  refine k_region ?_
  refine s_buildSlice0 api_Inst_E no wz hp_34 Try.runUnderlying22 Try.sizeOf44 rfl (fun A_36 c_37 w_38 X_39 hp_40 O_41 => ?_)
  refine sv (v := .slice A_1 a0.length c_2) rfl rfl rfl (e_move (tm rfl rfl)) ?_
  obtain ⟨g_42, H⟩ := grd H
  refine s_append (E := api_Inst_E) (F := no) (wf := wz) (xs := ([] : List api_Inst)) (ys := a0) (r := 2) hp_40 (tm rfl rfl) (tm rfl rfl) Try.underlying22 rfl rfl rfl rfl rfl rfl rfl O_41 (RdS.srcF q_3 (fun h => h) hp_40) g_42 rfl (fun A_43 c_44 w_45 X_46 hp_47 O_48 => ?_)
  refine sv (v := .slice A_4 a1.length c_5) rfl rfl rfl (e_move (tm rfl rfl)) ?_
  obtain ⟨g_49, H⟩ := grd H
  refine s_append (E := api_Inst_E) (F := no) (wf := wz) (xs := (([] : List api_Inst) ++ a0)) (ys := a1) (r := 2) hp_47 (tm rfl rfl) (tm rfl rfl) Try.underlying22 rfl rfl rfl rfl rfl rfl rfl O_48 (RdS.srcF q_6 (fun h => h) hp_47) g_49 rfl (fun A_50 c_51 w_52 X_53 hp_54 O_55 => ?_)
  refine sv (v := .int .i64 a2) rfl rfl rfl (e_move (tm rfl rfl)) ?_
  refine sv (v := .int .i64 a3) rfl rfl rfl (e_move (tm rfl rfl)) ?_
  refine sv (v := .slice A_7 a4.length c_8) rfl rfl rfl (e_move (tm rfl rfl)) ?_
  obtain ⟨r_58, hx_57, H⟩ := bindSome H
  refine s_call (.cons (tm rfl rfl) (.cons (tm rfl rfl) (.cons (tm rfl rfl) (.cons (tm rfl rfl) .nil)))) Try.call11 (thread_Do.calls ((([] : List api_Inst) ++ a0) ++ a1) A_50 c_51 a2 a3 a4 A_7 c_8 r_58 _ _ (Hp.offCov hp_54 [] [X_29, [(b_30, .cells #[.slice A_26 r_21.Events.length c_27, .int .i64 r_21.Status] 28 (0, 0))], X_53] rfl) (Own.pass (Own.any O_55) hp_54 (subRest [] [X_29, [(b_30, .cells #[.slice A_26 r_21.Events.length c_27, .int .i64 r_21.Status] 28 (0, 0))], X_53] rfl) (i := 2) rfl) (RdS.pass q_9 hp_54) hx_57) rfl ?_
  rintro v_ w_59 ⟨A_63, c_64, X_66, rfl, q_65, af_62⟩
  have hp_60 := Hp.callA af_62 hp_54
  refine s_alloc (zv := .agg #[.slice none 0 0, .int .i64 0]) (l := [.slice none 0 0, .int .i64 0]) hp_60 (by intro w_; kernel_rfl) rfl rfl (fun b_67 w_68 hp_69 => ?_)
  refine s_store (i := 4) (j := 0) (vs := [.slice A_63 r_58.Events.length c_64, .int .i64 r_58.Status]) (l' := [.slice A_63 r_58.Events.length c_64, .int .i64 r_58.Status]) hp_69 (tm rfl rfl) (tm rfl rfl) rfl Try.sizeOf28 rfl rfl rfl rfl rfl rfl (fun w_70 hp_71 => ?_)
  refine k_nil ?_
  refine k_seq ?_
  obtain ⟨o_72, H, G_73⟩ := bindSome H
  refine k_cut (fun a w' => ∃ (σ_87 : Nat → Value), a = st 58 [(10, .bool o_72)] σ_87 [] ∧ Hp (On []) F w w w' []) ?_ ?_
  · as_aux_lemma =>
      refine k_region ?_
      refine sv (v := .pointer (some ⟨b_67, 1, none⟩)) rfl rfl rfl (e_fieldAddr (tm rfl rfl) Try.runUnderlying28 rfl Try.sizeOf3 rfl rfl) ?_
      refine sv (v := .int .i64 r_58.Status) rfl rfl rfl (e_load1 (tm rfl rfl) Try.isAgg3 (cell_atL (hp_71.get (i := 4) (j := 0) rfl rfl) rfl)) ?_
      refine sv (v := .bool (decide (r_58.Status = 0))) rfl rfl rfl (e_bin (tm rfl rfl) rfl (r_eql rfl)) ?_
      refine sv (v := .bool (decide (r_58.Status = 0))) rfl rfl rfl (e_move (tm rfl rfl)) ?_
      refine s_gp (v := .agg #[.slice A_26 r_21.Events.length c_27, .int .i64 r_21.Status]) rfl rfl rfl (beq_f _) (fun g_ => e_loadA (tm rfl rfl) Try.isAgg28 Try.sizeOf28 rfl (cells_box (sz := 2) (hp_71.get (i := 2) (j := 0) rfl rfl) rfl)) rfl ?_
      refine s_gp (v := .agg #[.slice A_63 r_58.Events.length c_64, .int .i64 r_58.Status]) rfl rfl rfl (beq_f _) (fun g_ => e_loadA (tm rfl rfl) Try.isAgg28 Try.sizeOf28 rfl (cells_box (sz := 2) (hp_71.get (i := 4) (j := 0) rfl rfl) rfl)) rfl ?_
      rcases Bool.eq_false_or_eq_true (decide (r_58.Status = 0)) with h_74 | h_74
      · have H := ift h_74 H
        refine goff rfl rfl (congrArg Value.bool h_74) rfl ?_
        refine sv (v := .bool true) rfl rfl rfl (e_pick (b := decide (r_58.Status = 0)) (v1 := .bool true) (v2 := .bool true) (tm rfl rfl) (fun _ => rfl) (fun h_ => pk_no h_ h_74) (pk_same _ _)) ?_
        refine sv (v := .bool true) rfl rfl rfl (e_assign (tm rfl rfl)) ?_
        refine k_nil ?_
        obtain rfl := Option.some.inj H
        exact ⟨_, seenF ⟨rfl, trivial⟩, hp_71.pick [] (by decide) rfl⟩
      have H := iff_ h_74 H
      refine gon rfl rfl (congrArg Value.bool h_74) ?_
      obtain ⟨r_77, hx_76, H⟩ := bindSome H
      refine s_call (.cons (tmg (!(decide (r_58.Status = 0))) (.agg #[.slice A_26 r_21.Events.length c_27, .int .i64 r_21.Status]) rfl rfl (nt h_74)) (.cons (tmg (!(decide (r_58.Status = 0))) (.agg #[.slice A_63 r_58.Events.length c_64, .int .i64 r_58.Status]) rfl rfl (nt h_74)) .nil)) Try.call10 (selvageref16_Same.calls r_21 A_26 c_27 r_58 A_63 c_64 r_77 _ _ (Hp.offCov hp_71 [] [X_66, X_29, [(b_30, .cells #[.slice A_26 r_21.Events.length c_27, .int .i64 r_21.Status] 28 (0, 0))], X_53, [(b_67, .cells #[.slice A_63 r_58.Events.length c_64, .int .i64 r_58.Status] 28 (0, 0))]] rfl) (Own.pass (Own.any q_28) hp_71 (subRest [] [X_66, X_29, [(b_30, .cells #[.slice A_26 r_21.Events.length c_27, .int .i64 r_21.Status] 28 (0, 0))], X_53, [(b_67, .cells #[.slice A_63 r_58.Events.length c_64, .int .i64 r_58.Status] 28 (0, 0))]] rfl) (i := 1) rfl) (Own.pass (Own.any q_65) hp_71 (subRest [] [X_66, X_29, [(b_30, .cells #[.slice A_26 r_21.Events.length c_27, .int .i64 r_21.Status] 28 (0, 0))], X_53, [(b_67, .cells #[.slice A_63 r_58.Events.length c_64, .int .i64 r_58.Status] 28 (0, 0))]] rfl) (i := 0) rfl) hx_76) rfl ?_
      rintro v_ w_78 ⟨rfl, af_81⟩
      have hp_79 := Hp.callA af_81 hp_71
      refine sv (v := .bool r_77) rfl rfl rfl (e_pick (b := decide (r_58.Status = 0)) (v1 := .bool r_77) (v2 := .bool r_77) (tm rfl rfl) (fun h_ => pk_no h_74 h_) (fun _ => (tm rfl rfl)) (pk_same _ _)) ?_
      refine sv (v := .bool r_77) rfl rfl rfl (e_assign (tm rfl rfl)) ?_
      refine k_nil ?_
      obtain rfl := Option.some.inj H
      exact ⟨_, seenF ⟨rfl, trivial⟩, hp_79.pick [] (by decide) rfl⟩
  clear H
  rintro a w' ⟨σ_82, rfl, hp_83⟩
  have H := G_73
  refine k_ret ?_
  obtain rfl := Option.some.inj H
  exact k_end rfl (.tmp rfl rfl .nil) rfl ⟨rfl, (hp_83).aft⟩

end Go.Proofs.Ytcnchjlomcafeaa.W

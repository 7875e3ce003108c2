/- Functions of the program as plain Lean functions, and that the calls do what they say: written by w2.py. -/
import Derived.Test.YtcnchjlomcafeaaRun
import Derived.Test.YtcnchjlomcafeaaTy
import Derived.Test.YtcnchjlomcafeaaF18
import Derived.Test.YtcnchjlomcafeaaF19
set_option linter.unusedVariables false
set_option linter.unusedSimpArgs false
set_option linter.unusedSectionVars false
namespace Go.Proofs.Ytcnchjlomcafeaa.W
open Go Go.RowKit Go.Proofs.Ytcnchjlomcafeaa.B
attribute [local irreducible] Go.wpList Go.Code.wp Go.Region.wanted Go.yielded
/-! ### selvage/selvagelaw16.awake: function 9 -/
def selvagelaw16_awake.m : Option Bool :=
  (thread_Do.m ([(⟨10, 3, 2, 0, 0⟩ : api_Inst), (⟨16, 0, 3, 3, 0⟩ : api_Inst), (⟨18, 3, 0, 0, 4⟩ : api_Inst), (⟨11, 3, 2, 0, 8⟩ : api_Inst), (⟨23, 0, 0, 0, 0⟩ : api_Inst)] : List api_Inst) 2 0 ([5] : List Int)).bind fun r_15 => ((selvageref16_Same.m r_15 (⟨([(⟨1, 0, 5, 0, 0, 0, 0, 0⟩ : api_Event), (⟨2, 1, 5, 0, 0, 1, 1, 0⟩ : api_Event)] : List api_Event), 1⟩ : api_Run)).bind fun r_37 => (some r_37))
set_option maxHeartbeats 4000000 in
set_option maxRecDepth 100000 in
theorem selvagelaw16_awake.calls (r : Bool) (w : World) (H : selvagelaw16_awake.m = some r) :
    Ret Try.prog 9 [] w fun v w' => v = .bool r ∧ Aft w w' [] [] := by
  unfold selvagelaw16_awake.m at H
  have hp0 := Hp.startR (F := no) (R := []) (Have.nil w) (fun _ h => h.elim)
  have ep0 := Ep.refl no [] w
  refine enter (L := []) Try.func9 rfl Try.ntmps9 rfl rfl ?_
  refine kq tb hp0 [] [] (by kernel_rfl) fun σ => ?_
  refine k_seq ?_
  refine k_region ?_
  refine sr tb hp0 [] 5 [(3, .agg #[.int .i64 10, .int .i64 3, .int .i64 2, .int .i64 0, .int .i64 0]), (4, .agg #[.int .i64 16, .int .i64 0, .int .i64 3, .int .i64 3, .int .i64 0]), (5, .agg #[.int .i64 18, .int .i64 3, .int .i64 0, .int .i64 0, .int .i64 4]), (6, .agg #[.int .i64 11, .int .i64 3, .int .i64 2, .int .i64 0, .int .i64 8]), (7, .agg #[.int .i64 23, .int .i64 0, .int .i64 0, .int .i64 0, .int .i64 0])] (by kernel_rfl) fun σ => ?_
  refine s_buildSlice (zv := .agg #[.int .i64 0, .int .i64 0, .int .i64 0, .int .i64 0, .int .i64 0]) (E := api_Inst_E) (F := no) (wf := wz) (xs := ([(⟨10, 3, 2, 0, 0⟩ : api_Inst), (⟨16, 0, 3, 3, 0⟩ : api_Inst), (⟨18, 3, 0, 0, 4⟩ : api_Inst), (⟨11, 3, 2, 0, 8⟩ : api_Inst), (⟨23, 0, 0, 0, 0⟩ : api_Inst)] : List api_Inst)) (cs := [.int .i64 10, .int .i64 3, .int .i64 2, .int .i64 0, .int .i64 0, .int .i64 16, .int .i64 0, .int .i64 3, .int .i64 3, .int .i64 0, .int .i64 18, .int .i64 3, .int .i64 0, .int .i64 0, .int .i64 4, .int .i64 11, .int .i64 3, .int .i64 2, .int .i64 0, .int .i64 8, .int .i64 23, .int .i64 0, .int .i64 0, .int .i64 0, .int .i64 0]) (vs := [(0, .agg #[.int .i64 10, .int .i64 3, .int .i64 2, .int .i64 0, .int .i64 0]), (1, .agg #[.int .i64 16, .int .i64 0, .int .i64 3, .int .i64 3, .int .i64 0]), (2, .agg #[.int .i64 18, .int .i64 3, .int .i64 0, .int .i64 0, .int .i64 4]), (3, .agg #[.int .i64 11, .int .i64 3, .int .i64 2, .int .i64 0, .int .i64 8]), (4, .agg #[.int .i64 23, .int .i64 0, .int .i64 0, .int .i64 0, .int .i64 0])]) hp0 (.cons (tm rfl rfl) (.cons (tm rfl rfl) (.cons (tm rfl rfl) (.cons (tm rfl rfl) (.cons (tm rfl rfl) .nil))))) Try.runUnderlying22 Try.sizeOf44 (by intro w_; kernel_rfl) rfl rfl rfl (Reps.cat.2 rfl) (by kernel_rfl) rfl (fun A_1 c_2 w_3 X_4 hp_5 O_6 => ?_)
  refine sv (v := .slice A_1 ([(⟨10, 3, 2, 0, 0⟩ : api_Inst), (⟨16, 0, 3, 3, 0⟩ : api_Inst), (⟨18, 3, 0, 0, 4⟩ : api_Inst), (⟨11, 3, 2, 0, 8⟩ : api_Inst), (⟨23, 0, 0, 0, 0⟩ : api_Inst)] : List api_Inst).length c_2) rfl rfl rfl (e_assign (tm rfl rfl)) ?_
  refine k_nil ?_
  refine k_seq ?_
  refine k_region ?_
  refine sv (v := .slice A_1 ([(⟨10, 3, 2, 0, 0⟩ : api_Inst), (⟨16, 0, 3, 3, 0⟩ : api_Inst), (⟨18, 3, 0, 0, 4⟩ : api_Inst), (⟨11, 3, 2, 0, 8⟩ : api_Inst), (⟨23, 0, 0, 0, 0⟩ : api_Inst)] : List api_Inst).length c_2) rfl rfl rfl (e_move (tm rfl rfl)) ?_
  refine s_buildSlice (zv := .int .i64 0) (E := (intE .i64)) (F := no) (wf := wz) (xs := ([5] : List Int)) (cs := [.int .i64 5]) (vs := [(0, .int .i64 5)]) hp_5 (.cons rfl .nil) Try.runUnderlying23 Try.sizeOf2 (by intro w_; kernel_rfl) rfl rfl rfl (Reps.cat.2 rfl) (by kernel_rfl) rfl (fun A_7 c_8 w_9 X_10 hp_11 O_12 => ?_)
  obtain ⟨r_15, hx_14, H⟩ := bindSome H
  refine s_call (.cons (tm rfl rfl) (.cons rfl (.cons rfl (.cons (tm rfl rfl) .nil)))) Try.call11 (thread_Do.calls ([(⟨10, 3, 2, 0, 0⟩ : api_Inst), (⟨16, 0, 3, 3, 0⟩ : api_Inst), (⟨18, 3, 0, 0, 4⟩ : api_Inst), (⟨11, 3, 2, 0, 8⟩ : api_Inst), (⟨23, 0, 0, 0, 0⟩ : api_Inst)] : List api_Inst) A_1 c_2 2 0 ([5] : List Int) A_7 c_8 r_15 _ _ (Hp.offCov hp_11 [] [X_4, X_10] rfl) (Own.pass (Own.any O_6) hp_11 (subRest [] [X_4, X_10] rfl) (i := 0) rfl) (Own.pass (Own.any O_12) hp_11 (subRest [] [X_4, X_10] rfl) (i := 1) rfl) hx_14) rfl ?_
  rintro v_ w_16 ⟨A_20, c_21, X_23, rfl, q_22, af_19⟩
  have hp_17 := Hp.callA af_19 hp_11
  refine s_alloc (zv := .agg #[.slice none 0 0, .int .i64 0]) (l := [.slice none 0 0, .int .i64 0]) hp_17 (by intro w_; kernel_rfl) rfl rfl (fun b_24 w_25 hp_26 => ?_)
  refine s_store (i := 3) (j := 0) (vs := [.slice A_20 r_15.Events.length c_21, .int .i64 r_15.Status]) (l' := [.slice A_20 r_15.Events.length c_21, .int .i64 r_15.Status]) hp_26 (tm rfl rfl) (tm rfl rfl) rfl Try.sizeOf28 rfl rfl rfl rfl rfl rfl (fun w_27 hp_28 => ?_)
  refine k_nil ?_
  refine k_seq ?_
  refine k_region ?_
  refine sr tb hp_28 [(2, 3, 0)] 3 [(12, .agg #[.slice A_20 r_15.Events.length c_21, .int .i64 r_15.Status]), (13, .agg #[.int .i64 1, .int .i64 0, .int .i64 5, .int .i64 0, .int .u64 0, .int .u64 0, .int .u64 0, .int .u64 0]), (14, .agg #[.int .i64 2, .int .i64 1, .int .i64 5, .int .i64 0, .int .u64 0, .int .u64 1, .int .u64 1, .int .u64 0])] (by kernel_rfl) fun σ => ?_
  refine s_buildSlice (zv := .agg #[.int .i64 0, .int .i64 0, .int .i64 0, .int .i64 0, .int .u64 0, .int .u64 0, .int .u64 0, .int .u64 0]) (E := api_Event_E) (F := no) (wf := wz) (xs := ([(⟨1, 0, 5, 0, 0, 0, 0, 0⟩ : api_Event), (⟨2, 1, 5, 0, 0, 1, 1, 0⟩ : api_Event)] : List api_Event)) (cs := [.int .i64 1, .int .i64 0, .int .i64 5, .int .i64 0, .int .u64 0, .int .u64 0, .int .u64 0, .int .u64 0, .int .i64 2, .int .i64 1, .int .i64 5, .int .i64 0, .int .u64 0, .int .u64 1, .int .u64 1, .int .u64 0]) (vs := [(0, .agg #[.int .i64 1, .int .i64 0, .int .i64 5, .int .i64 0, .int .u64 0, .int .u64 0, .int .u64 0, .int .u64 0]), (1, .agg #[.int .i64 2, .int .i64 1, .int .i64 5, .int .i64 0, .int .u64 0, .int .u64 1, .int .u64 1, .int .u64 0])]) hp_28 (.cons (tm rfl rfl) (.cons (tm rfl rfl) .nil)) Try.runUnderlying26 Try.sizeOf33 (by intro w_; kernel_rfl) rfl rfl rfl (Reps.cat.2 rfl) (by kernel_rfl) rfl (fun A_29 c_30 w_31 X_32 hp_33 O_34 => ?_)
  refine sv (v := .agg #[.slice A_29 ([(⟨1, 0, 5, 0, 0, 0, 0, 0⟩ : api_Event), (⟨2, 1, 5, 0, 0, 1, 1, 0⟩ : api_Event)] : List api_Event).length c_30, .int .i64 1]) rfl rfl rfl (e_build (vs := [(0, .slice A_29 ([(⟨1, 0, 5, 0, 0, 0, 0, 0⟩ : api_Event), (⟨2, 1, 5, 0, 0, 1, 1, 0⟩ : api_Event)] : List api_Event).length c_30), (1, .int .i64 1)]) (cs := [.slice A_29 ([(⟨1, 0, 5, 0, 0, 0, 0, 0⟩ : api_Event), (⟨2, 1, 5, 0, 0, 1, 1, 0⟩ : api_Event)] : List api_Event).length c_30, .int .i64 1]) (.cons (tm rfl rfl) (.cons rfl .nil)) (by kernel_rfl)) ?_
  obtain ⟨r_37, hx_36, H⟩ := bindSome H
  refine s_call (.cons (tm rfl rfl) (.cons (tm rfl rfl) .nil)) Try.call10 (selvageref16_Same.calls r_15 A_20 c_21 (⟨([(⟨1, 0, 5, 0, 0, 0, 0, 0⟩ : api_Event), (⟨2, 1, 5, 0, 0, 1, 1, 0⟩ : api_Event)] : List api_Event), 1⟩ : api_Run) A_29 c_30 r_37 _ _ (Hp.offCov hp_33 [] [X_23, X_4, X_10, [(b_24, .cells #[.slice A_20 r_15.Events.length c_21, .int .i64 r_15.Status] 28 (0, 0))], X_32] rfl) (Own.pass (Own.any q_22) hp_33 (subRest [] [X_23, X_4, X_10, [(b_24, .cells #[.slice A_20 r_15.Events.length c_21, .int .i64 r_15.Status] 28 (0, 0))], X_32] rfl) (i := 0) rfl) (Own.pass (Own.any O_34) hp_33 (subRest [] [X_23, X_4, X_10, [(b_24, .cells #[.slice A_20 r_15.Events.length c_21, .int .i64 r_15.Status] 28 (0, 0))], X_32] rfl) (i := 4) rfl) hx_36) rfl ?_
  rintro v_ w_38 ⟨rfl, af_41⟩
  have hp_39 := Hp.callA af_41 hp_33
  refine sv (v := .bool r_37) rfl rfl rfl (e_assign (tm rfl rfl)) ?_
  refine k_nil ?_
  refine k_ret ?_
  obtain rfl := Option.some.inj H
  exact k_end rfl (.tmp rfl rfl .nil) rfl ⟨rfl, (hp_39.pick [] (by decide) rfl).aft⟩

end Go.Proofs.Ytcnchjlomcafeaa.W

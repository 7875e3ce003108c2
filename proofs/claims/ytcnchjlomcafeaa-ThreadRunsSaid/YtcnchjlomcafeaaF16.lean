/- Functions of the program as plain Lean functions, and that the calls do what they say: written by w2.py. -/
import Derived.Test.YtcnchjlomcafeaaRun
import Derived.Test.YtcnchjlomcafeaaTy
set_option linter.unusedVariables false
set_option linter.unusedSimpArgs false
set_option linter.unusedSectionVars false
namespace Go.Proofs.Ytcnchjlomcafeaa.W
open Go Go.RowKit Go.Proofs.Ytcnchjlomcafeaa.B
attribute [local irreducible] Go.wpList Go.Code.wp Go.Region.wanted Go.yielded
/-! ### selvage/thread.Do$1: function 19 -/
def thread_Do_1.m (c0_ : thread_thread) (c1_ : api_Run) : api_Run :=
  (⟨c0_.out, c1_.Status⟩ : api_Run)
set_option maxHeartbeats 4000000 in
set_option maxRecDepth 100000 in
theorem thread_Do_1.calls (c0_ : thread_thread) (b_1 : Nat) (b_2 : Nat) (A_3 : Option Addr) (c_4 : Nat) (A_6 : Option Addr) (c_7 : Nat) (cs_9 : List Value) (cs_11 : List Value) (A_13 : Option Addr) (c_14 : Nat) (X_16 : Rsc) (c1_ : api_Run) (b_17 : Nat) (A_18 : Option Addr) (c_19 : Nat) (X_21 : Rsc) (w : World) (F : Nat → Prop) (hF : ∀ k, F k → Off w [[(b_1, .cells #[.pointer (some ⟨b_2, 0, none⟩)] 53 (0, 0))], [(b_2, .cells (([.slice A_3 c0_.code.length c_4, .int .i64 c0_.locs, .int .i64 c0_.base, .slice A_6 c0_.answers.length c_7] : List Value) ++ (cs_9 ++ (([] : List Value) ++ (cs_11 ++ ([.bool c0_.less, .bool c0_.same, .int .u64 c0_.held, .int .u64 c0_.ctrl, .int .u64 c0_.fenced, .int .i64 c0_.hold, .int .i64 c0_.event, .slice A_13 c0_.out.length c_14] : List Value))))).toArray 59 (0, 0))], X_16, [(b_17, .cells #[.slice A_18 c1_.Events.length c_19, .int .i64 c1_.Status] 28 (0, 0))], X_21] k) (hX : Have w [[(b_1, .cells #[.pointer (some ⟨b_2, 0, none⟩)] 53 (0, 0))], [(b_2, .cells (([.slice A_3 c0_.code.length c_4, .int .i64 c0_.locs, .int .i64 c0_.base, .slice A_6 c0_.answers.length c_7] : List Value) ++ (cs_9 ++ (([] : List Value) ++ (cs_11 ++ ([.bool c0_.less, .bool c0_.same, .int .u64 c0_.held, .int .u64 c0_.ctrl, .int .u64 c0_.fenced, .int .i64 c0_.hold, .int .i64 c0_.event, .slice A_13 c0_.out.length c_14] : List Value))))).toArray 59 (0, 0))], X_16, [(b_17, .cells #[.slice A_18 c1_.Events.length c_19, .int .i64 c1_.Status] 28 (0, 0))], X_21]) (q_5 : RdS api_Inst_E F w A_3 c_4 c0_.code) (q_8 : RdS (intE .i64) F w A_6 c_7 c0_.answers) (q_10 : Reps thread_cell_E no wz c0_.regs.toList cs_9) (q_12 : Reps thread_cell_E no wz c0_.stack.toList cs_11) (q_15 : Own api_Event_E no wz 33 A_13 c_14 c0_.out X_16) (q_20 : Own api_Event_E no wz 33 A_18 c_19 c1_.Events X_21) :
    RetD Try.prog 19 [.pointer (some ⟨b_1, 0, none⟩), .pointer (some ⟨b_17, 0, none⟩)] .returning .returning w fun v w' => ∃ (A_1024 : Option Addr) (c_1025 : Nat) (X_1027 : Rsc), v = .tuple #[] ∧ Own api_Event_E no wz 33 A_1024 c_1025 ((thread_Do_1.m c0_ c1_).Events) X_1027 ∧ Aft w w' [[(b_1, .cells #[.pointer (some ⟨b_2, 0, none⟩)] 53 (0, 0))], [(b_2, .cells (([.slice A_3 c0_.code.length c_4, .int .i64 c0_.locs, .int .i64 c0_.base, .slice A_6 c0_.answers.length c_7] : List Value) ++ (cs_9 ++ (([] : List Value) ++ (cs_11 ++ ([.bool c0_.less, .bool c0_.same, .int .u64 c0_.held, .int .u64 c0_.ctrl, .int .u64 c0_.fenced, .int .i64 c0_.hold, .int .i64 c0_.event, .slice A_13 c0_.out.length c_14] : List Value))))).toArray 59 (0, 0))], X_16, [(b_17, .cells #[.slice A_18 c1_.Events.length c_19, .int .i64 c1_.Status] 28 (0, 0))], X_21] [[(b_1, .cells #[.pointer (some ⟨b_2, 0, none⟩)] 53 (0, 0))], [(b_17, .cells #[.slice A_1024 ((thread_Do_1.m c0_ c1_).Events).length c_1025, .int .i64 ((thread_Do_1.m c0_ c1_).Status)] 28 (0, 0))], X_1027] := by
  obtain ⟨r, H⟩ : ∃ r, thread_Do_1.m c0_ c1_ = r := ⟨_, rfl⟩
  rw [H]
  unfold thread_Do_1.m at H
  have hp0 := Hp.startR hX hF
  have ep0 := Ep.refl F [[(b_1, .cells #[.pointer (some ⟨b_2, 0, none⟩)] 53 (0, 0))], [(b_2, .cells (([.slice A_3 c0_.code.length c_4, .int .i64 c0_.locs, .int .i64 c0_.base, .slice A_6 c0_.answers.length c_7] : List Value) ++ (cs_9 ++ (([] : List Value) ++ (cs_11 ++ ([.bool c0_.less, .bool c0_.same, .int .u64 c0_.held, .int .u64 c0_.ctrl, .int .u64 c0_.fenced, .int .i64 c0_.hold, .int .i64 c0_.event, .slice A_13 c0_.out.length c_14] : List Value))))).toArray 59 (0, 0))], X_16, [(b_17, .cells #[.slice A_18 c1_.Events.length c_19, .int .i64 c1_.Status] 28 (0, 0))], X_21] w
  refine enterS (L := [(0, .pointer (some ⟨b_1, 0, none⟩)), (1, .pointer (some ⟨b_17, 0, none⟩))]) Try.func19 rfl Try.ntmps19 rfl rfl ?_
  intro c₀ cs hm_
  refine wpS_seq ?_
  refine kS_of ?_
  refine k_region ?_
  refine srx tb hp0 [] [.p 3 1 0] [⟨1, 868, _, _, cells_box (sz := 8) (hp0.get (i := 1) (j := 0) rfl rfl) (segs 4 864 8 rfl (segs 64 800 8 (arr_len q_10 rfl) (segs 0 800 8 rfl (segs 800 0 8 (arr_len q_12 rfl) rfl))))⟩] [(0, 0, 0), (1, 3, 0)] [] 5 [(6, .slice A_13 c0_.out.length c_14), (7, .pointer (some ⟨b_17, 0, none⟩))] (by kernel_rfl) fun σ => ?_
  refine s_store (i := 3) (j := 0) (vs := [.slice A_13 c0_.out.length c_14]) (l' := [.slice A_13 c0_.out.length c_14, .int .i64 c1_.Status]) hp0 (tm rfl rfl) (tm rfl rfl) rfl Try.sizeOf26 rfl rfl rfl rfl rfl rfl (fun w_22 hp_23 => ?_)
  refine k_nil ?_
  refine wpS_seq ?_
  refine kS_recR hm_ rfl rfl ?_
  refine kS_last ?_
  refine k_seq ?_
  refine k_region ?_
  refine sv (v := .nilIface) rfl rfl rfl (e_move (tm rfl rfl)) ?_
  refine sv (v := .bool false) rfl rfl rfl (e_bin (tm rfl rfl) rfl (r_inn Try.runUnderlying20)) ?_
  refine k_nil ?_
  refine k_if_f (tm rfl rfl) ?_
  refine k_skip ?_
  obtain rfl := id H
  exact k_endSn (frame_mode hm_) rfl .nil rfl ⟨A_13, c_14, X_16, rfl, q_15, (hp_23.pick [0, 3, 2] (by decide) rfl).aft⟩

end Go.Proofs.Ytcnchjlomcafeaa.W

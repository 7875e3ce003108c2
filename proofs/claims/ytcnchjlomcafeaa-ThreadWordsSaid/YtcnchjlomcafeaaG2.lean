/- Functions of the program as plain Lean functions, and that the calls do what they say: written by w3.py. -/
import Derived.Test.YtcnchjlomcafeaaRun
import Derived.Test.YtcnchjlomcafeaaTy
import Derived.Test.YtcnchjlomcafeaaG0
import Derived.Test.YtcnchjlomcafeaaF15
set_option linter.unusedVariables false
set_option linter.unusedSimpArgs false
set_option linter.unusedSectionVars false
namespace Go.Proofs.Ytcnchjlomcafeaa.W
open Go Go.RowKit Go.Proofs.Ytcnchjlomcafeaa.B
attribute [local irreducible] Go.wpList Go.Code.wp Go.Region.wanted Go.yielded
/-! ### selvage/thread.Do$1: function 19 -/
def thread_Do_1.m (c0_ : thread_thread) (c1_ : api_Run) : api_Run :=
 (⟨c0_.out, c1_.Status⟩ : api_Run)
set_option maxHeartbeats 4000000 in
set_option maxRecDepth 100000 in
theorem thread_Do_1.calls (c0_ : thread_thread) (b_1 : Nat) (b_2 : Nat) (A_3 : Option Addr) (c_4 : Nat) (A_6 : Option Addr) (c_7 : Nat) (cs_9 : List Value) (cs_11 : List Value) (A_13 : Option Addr) (c_14 : Nat) (X_16 : Rsc) (c1_ : api_Run) (b_17 : Nat) (A_18 : Option Addr) (c_19 : Nat) (X_21 : Rsc) (w : World) (F : Nat → Prop) (hF : ∀ k, F k → Off w [[(b_1, .cells #[.pointer (some ⟨b_2, 0, none⟩)] 53 (0, 0))], [(b_2, .cells (([.slice A_3 c0_.code.length c_4, .int .i64 c0_.locs, .int .i64 c0_.base, .slice A_6 c0_.answers.length c_7] : List Value) ++ (cs_9 ++ (([] : List Value) ++ (cs_11 ++ ([.bool c0_.less, .bool c0_.same, .int .u64 c0_.held, .int .u64 c0_.ctrl, .int .u64 c0_.fenced, .int .i64 c0_.hold, .int .i64 c0_.event, .slice A_13 c0_.out.length c_14] : List Value))))).toArray 59 (0, 0))], X_16, [(b_17, .cells #[.slice A_18 c1_.Events.length c_19, .int .i64 c1_.Status] 28 (0, 0))], X_21] k) (hX : Have w [[(b_1, .cells #[.pointer (some ⟨b_2, 0, none⟩)] 53 (0, 0))], [(b_2, .cells (([.slice A_3 c0_.code.length c_4, .int .i64 c0_.locs, .int .i64 c0_.base, .slice A_6 c0_.answers.length c_7] : List Value) ++ (cs_9 ++ (([] : List Value) ++ (cs_11 ++ ([.bool c0_.less, .bool c0_.same, .int .u64 c0_.held, .int .u64 c0_.ctrl, .int .u64 c0_.fenced, .int .i64 c0_.hold, .int .i64 c0_.event, .slice A_13 c0_.out.length c_14] : List Value))))).toArray 59 (0, 0))], X_16, [(b_17, .cells #[.slice A_18 c1_.Events.length c_19, .int .i64 c1_.Status] 28 (0, 0))], X_21]) (q_5 : RdS api_Inst_E F w A_3 c_4 c0_.code) (q_8 : RdS (intE .i64) F w A_6 c_7 c0_.answers) (q_10 : Reps thread_cell_E no wz c0_.regs.toList cs_9) (q_12 : Reps thread_cell_E no wz c0_.stack.toList cs_11) (q_15 : Own api_Event_E no wz 33 A_13 c_14 c0_.out X_16) (q_20 : Own api_Event_E no wz 33 A_18 c_19 c1_.Events X_21) :
 RetD Try.prog 19 [.pointer (some ⟨b_1, 0, none⟩), .pointer (some ⟨b_17, 0, none⟩)] .returning .returning w fun v w' => ∃ (A_1024 : Option Addr) (c_1025 : Nat) (X_1027 : Rsc), v = .tuple #[] ∧ Own api_Event_E no wz 33 A_1024 c_1025 ((thread_Do_1.m c0_ c1_).Events) X_1027 ∧ Aft w w' [[(b_1, .cells #[.pointer (some ⟨b_2, 0, none⟩)] 53 (0, 0))], [(b_2, .cells (([.slice A_3 c0_.code.length c_4, .int .i64 c0_.locs, .int .i64 c0_.base, .slice A_6 c0_.answers.length c_7] : List Value) ++ (cs_9 ++ (([] : List Value) ++ (cs_11 ++ ([.bool c0_.less, .bool c0_.same, .int .u64 c0_.held, .int .u64 c0_.ctrl, .int .u64 c0_.fenced, .int .i64 c0_.hold, .int .i64 c0_.event, .slice A_13 c0_.out.length c_14] : List Value))))).toArray 59 (0, 0))], X_16, [(b_17, .cells #[.slice A_18 c1_.Events.length c_19, .int .i64 c1_.Status] 28 (0, 0))], X_21] [[(b_1, .cells #[.pointer (some ⟨b_2, 0, none⟩)] 53 (0, 0))], [(b_17, .cells #[.slice A_1024 ((thread_Do_1.m c0_ c1_).Events).length c_1025, .int .i64 ((thread_Do_1.m c0_ c1_).Status)] 28 (0, 0))], X_1027] := by
 obtain ⟨r, H⟩ : ∃ r, thread_Do_1.m c0_ c1_ = r := ⟨_, rfl⟩
 rw [H]
 unfold thread_Do_1.m at H
 have hp0 := Hp.startR hX hF
 have ep0 := Ep.refl F [[(b_1, .cells #[.pointer (some ⟨b_2, 0, none⟩)] 53 (0, 0))], [(b_2, .cells (([.slice A_3 c0_.code.length c_4, .int .i64 c0_.locs, .int .i64 c0_.base, .slice A_6 c0_.answers.length c_7] : List Value) ++ (cs_9 ++ (([] : List Value) ++ (cs_11 ++ ([.bool c0_.less, .bool c0_.same, .int .u64 c0_.held, .int .u64 c0_.ctrl, .int .u64 c0_.fenced, .int .i64 c0_.hold, .int .i64 c0_.event, .slice A_13 c0_.out.length c_14] : List Value))))).toArray 59 (0, 0))], X_16, [(b_17, .cells #[.slice A_18 c1_.Events.length c_19, .int .i64 c1_.Status] 28 (0, 0))], X_21] w
 refine enterS (L := [(0, .pointer (some ⟨b_1, 0, none⟩)), (1, .pointer (some ⟨b_17, 0, none⟩))]) Try.func19 rfl Try.ntmps19 rfl rfl ?_
 intro c₀ cs hm_
 refine wpS_seq ?_
 refine kS_of ?_
 refine k_region ?_
 refine srx tb hp0 [] [.p 3 1 0] [⟨1, 868, _, _, cells_box (sz := 8) (hp0.get (i := 1) (j := 0) rfl rfl) (segs 4 864 8 rfl (segs 64 800 8 (arr_len q_10 rfl) (segs 0 800 8 rfl (segs 800 0 8 (arr_len q_12 rfl) rfl))))⟩] [(0, 0, 0), (1, 3, 0)] [] 5 [(6, .slice A_13 c0_.out.length c_14), (7, .pointer (some ⟨b_17, 0, none⟩))] (by kernel_rfl) fun σ => ?_
 refine s_store (i := 3) (j := 0) (vs := [.slice A_13 c0_.out.length c_14]) (l' := [.slice A_13 c0_.out.length c_14, .int .i64 c1_.Status]) hp0 (tm rfl rfl) (tm rfl rfl) rfl Try.sizeOf26 rfl rfl rfl rfl rfl rfl (fun w_22 hp_23 => ?_)
 refine k_nil ?_
 refine wpS_seq ?_
 refine kS_recR hm_ rfl rfl ?_
 refine kS_last ?_
 refine k_seq ?_
 refine k_region ?_
 refine sv (v := .nilIface) rfl rfl rfl (e_move (tm rfl rfl)) ?_
 refine sv (v := .bool false) rfl rfl rfl (e_bin (tm rfl rfl) rfl (r_inn Try.runUnderlying20)) ?_
 refine k_nil ?_
 refine k_if_f (tm rfl rfl) ?_
 refine k_skip ?_
 obtain rfl := id H
 exact k_endSn (frame_mode hm_) rfl .nil rfl ⟨A_13, c_14, X_16, rfl, q_15, (hp_23.pick [0, 3, 2] (by decide) rfl).aft⟩

/-! ### selvage/thread.Do$1: function 19 -/
def thread_Do_1_v1.m (c0_ : thread_thread) (c1_ : api_Run) (pv_ : Int) : api_Run :=
 (⟨c0_.out, pv_⟩ : api_Run)
set_option maxHeartbeats 4000000 in
set_option maxRecDepth 100000 in
theorem thread_Do_1_v1.calls (c0_ : thread_thread) (b_1 : Nat) (b_2 : Nat) (A_3 : Option Addr) (c_4 : Nat) (A_6 : Option Addr) (c_7 : Nat) (cs_9 : List Value) (cs_11 : List Value) (A_13 : Option Addr) (c_14 : Nat) (X_16 : Rsc) (c1_ : api_Run) (b_17 : Nat) (A_18 : Option Addr) (c_19 : Nat) (X_21 : Rsc) (pv_ : Int) (w : World) (F : Nat → Prop) (hF : ∀ k, F k → Off w [[(b_1, .cells #[.pointer (some ⟨b_2, 0, none⟩)] 53 (0, 0))], [(b_2, .cells (([.slice A_3 c0_.code.length c_4, .int .i64 c0_.locs, .int .i64 c0_.base, .slice A_6 c0_.answers.length c_7] : List Value) ++ (cs_9 ++ (([] : List Value) ++ (cs_11 ++ ([.bool c0_.less, .bool c0_.same, .int .u64 c0_.held, .int .u64 c0_.ctrl, .int .u64 c0_.fenced, .int .i64 c0_.hold, .int .i64 c0_.event, .slice A_13 c0_.out.length c_14] : List Value))))).toArray 59 (0, 0))], X_16, [(b_17, .cells #[.slice A_18 c1_.Events.length c_19, .int .i64 c1_.Status] 28 (0, 0))], X_21] k) (hX : Have w [[(b_1, .cells #[.pointer (some ⟨b_2, 0, none⟩)] 53 (0, 0))], [(b_2, .cells (([.slice A_3 c0_.code.length c_4, .int .i64 c0_.locs, .int .i64 c0_.base, .slice A_6 c0_.answers.length c_7] : List Value) ++ (cs_9 ++ (([] : List Value) ++ (cs_11 ++ ([.bool c0_.less, .bool c0_.same, .int .u64 c0_.held, .int .u64 c0_.ctrl, .int .u64 c0_.fenced, .int .i64 c0_.hold, .int .i64 c0_.event, .slice A_13 c0_.out.length c_14] : List Value))))).toArray 59 (0, 0))], X_16, [(b_17, .cells #[.slice A_18 c1_.Events.length c_19, .int .i64 c1_.Status] 28 (0, 0))], X_21]) (q_5 : RdS api_Inst_E F w A_3 c_4 c0_.code) (q_8 : RdS (intE .i64) F w A_6 c_7 c0_.answers) (q_10 : Reps thread_cell_E no wz c0_.regs.toList cs_9) (q_12 : Reps thread_cell_E no wz c0_.stack.toList cs_11) (q_15 : Own api_Event_E no wz 33 A_13 c_14 c0_.out X_16) (q_20 : Own api_Event_E no wz 33 A_18 c_19 c1_.Events X_21) :
 RetD Try.prog 19 [.pointer (some ⟨b_1, 0, none⟩), .pointer (some ⟨b_17, 0, none⟩)] (.panicking [⟨.iface 60 (.int .i64 pv_), false, false⟩]) (.panicking [⟨.iface 60 (.int .i64 pv_), true, false⟩]) w fun v w' => ∃ (A_1026 : Option Addr) (c_1027 : Nat) (X_1029 : Rsc), v = .tuple #[] ∧ Own api_Event_E no wz 33 A_1026 c_1027 ((thread_Do_1_v1.m c0_ c1_ pv_).Events) X_1029 ∧ Aft w w' [[(b_1, .cells #[.pointer (some ⟨b_2, 0, none⟩)] 53 (0, 0))], [(b_2, .cells (([.slice A_3 c0_.code.length c_4, .int .i64 c0_.locs, .int .i64 c0_.base, .slice A_6 c0_.answers.length c_7] : List Value) ++ (cs_9 ++ (([] : List Value) ++ (cs_11 ++ ([.bool c0_.less, .bool c0_.same, .int .u64 c0_.held, .int .u64 c0_.ctrl, .int .u64 c0_.fenced, .int .i64 c0_.hold, .int .i64 c0_.event, .slice A_13 c0_.out.length c_14] : List Value))))).toArray 59 (0, 0))], X_16, [(b_17, .cells #[.slice A_18 c1_.Events.length c_19, .int .i64 c1_.Status] 28 (0, 0))], X_21] [[(b_1, .cells #[.pointer (some ⟨b_2, 0, none⟩)] 53 (0, 0))], [(b_17, .cells #[.slice A_1026 ((thread_Do_1_v1.m c0_ c1_ pv_).Events).length c_1027, .int .i64 ((thread_Do_1_v1.m c0_ c1_ pv_).Status)] 28 (0, 0))], X_1029] := by
 obtain ⟨r, H⟩ : ∃ r, thread_Do_1_v1.m c0_ c1_ pv_ = r := ⟨_, rfl⟩
 rw [H]
 unfold thread_Do_1_v1.m at H
 have hp0 := Hp.startR hX hF
 have ep0 := Ep.refl F [[(b_1, .cells #[.pointer (some ⟨b_2, 0, none⟩)] 53 (0, 0))], [(b_2, .cells (([.slice A_3 c0_.code.length c_4, .int .i64 c0_.locs, .int .i64 c0_.base, .slice A_6 c0_.answers.length c_7] : List Value) ++ (cs_9 ++ (([] : List Value) ++ (cs_11 ++ ([.bool c0_.less, .bool c0_.same, .int .u64 c0_.held, .int .u64 c0_.ctrl, .int .u64 c0_.fenced, .int .i64 c0_.hold, .int .i64 c0_.event, .slice A_13 c0_.out.length c_14] : List Value))))).toArray 59 (0, 0))], X_16, [(b_17, .cells #[.slice A_18 c1_.Events.length c_19, .int .i64 c1_.Status] 28 (0, 0))], X_21] w
 refine enterS (L := [(0, .pointer (some ⟨b_1, 0, none⟩)), (1, .pointer (some ⟨b_17, 0, none⟩))]) Try.func19 rfl Try.ntmps19 rfl rfl ?_
 intro c₀ cs hm_
 refine wpS_seq ?_
 refine kS_of ?_
 refine k_region ?_
 refine srx tb hp0 [] [.p 3 1 0] [⟨1, 868, _, _, cells_box (sz := 8) (hp0.get (i := 1) (j := 0) rfl rfl) (segs 4 864 8 rfl (segs 64 800 8 (arr_len q_10 rfl) (segs 0 800 8 rfl (segs 800 0 8 (arr_len q_12 rfl) rfl))))⟩] [(0, 0, 0), (1, 3, 0)] [] 5 [(6, .slice A_13 c0_.out.length c_14), (7, .pointer (some ⟨b_17, 0, none⟩))] (by kernel_rfl) fun σ => ?_
 refine s_store (i := 3) (j := 0) (vs := [.slice A_13 c0_.out.length c_14]) (l' := [.slice A_13 c0_.out.length c_14, .int .i64 c1_.Status]) hp0 (tm rfl rfl) (tm rfl rfl) rfl Try.sizeOf26 rfl rfl rfl rfl rfl rfl (fun w_22 hp_23 => ?_)
 refine k_nil ?_
 refine wpS_seq ?_
 refine kS_recP hm_ rfl rfl ?_
 refine kS_last ?_
 refine k_seq ?_
 refine k_region ?_
 refine sv (v := .iface 60 (.int .i64 pv_)) rfl rfl rfl (e_move (tm rfl rfl)) ?_
 refine sv (v := .bool true) rfl rfl rfl (e_bin (tm rfl rfl) rfl (r_inen Try.runUnderlying20)) ?_
 refine k_nil ?_
 refine k_if_t (tm rfl rfl) ?_
 refine k_region ?_
 refine sv (v := .iface 60 (.int .i64 pv_)) rfl rfl rfl (e_move (tm rfl rfl)) ?_
 refine sv (v := .int .i64 pv_) rfl rfl rfl (e_assert (tm rfl rfl) Try.runUnderlying60 rfl) ?_
 refine sv (v := .pointer (some ⟨b_17, 1, none⟩)) rfl rfl rfl (e_fieldAddr (tm rfl rfl) Try.runUnderlying28 rfl Try.sizeOf3 rfl rfl) ?_
 refine s_store (i := 3) (j := 0) (vs := [.int .i64 pv_]) (l' := [.slice A_13 c0_.out.length c_14, .int .i64 pv_]) hp_23 (tm rfl rfl) (tm rfl rfl) rfl Try.sizeOf3 rfl rfl rfl rfl rfl rfl (fun w_24 hp_25 => ?_)
 refine k_nil ?_
 obtain rfl := id H
 exact k_endSn rfl rfl .nil rfl ⟨A_13, c_14, X_16, rfl, q_15, (hp_25.pick [0, 3, 2] (by decide) rfl).aft⟩

/-! ### selvage/thread.Do: function 11 -/
def thread_Do.l0 (a0 : List api_Inst) (x_16 : Int) : Option (Int ⊕ (Unit ⊕ api_Run)) :=
 if (decide (x_16 < (a0.length : Int))) = true then (if 0 ≤ x_16 ∧ x_16 < (a0.length : Int) then ((isa_Encode.m (⟨(gi a0 x_16).Op, (gi a0 x_16).T, (gi a0 x_16).A, (gi a0 x_16).B, (gi a0 x_16).Imm⟩ : api_Inst)).bind fun r_37 => (if (!decide (r_37.2 = 0)) = true then (((some (⟨([] : List api_Event), 0⟩ : api_Run)).map Sum.inr).map Sum.inr) else (some (Sum.inl (wrap64 (x_16 + 1)))))) else none) else ((some (Sum.inl ())).map Sum.inr)
def thread_Do.l1 (a0 : List api_Inst) (x_79 : thread_thread × Int × Int) : Option ((thread_thread × Int × Int) ⊕ (Empty ⊕ api_Run)) :=
 if ((decide (x_79.2.1 < 0)) || (decide (x_79.2.1 ≥ (a0.length : Int)))) = true then (((some (⟨(thread_Do_1.m x_79.1 (⟨([] : List api_Event), 6⟩ : api_Run)).Events, (thread_Do_1.m x_79.1 (⟨([] : List api_Event), 6⟩ : api_Run)).Status⟩ : api_Run)).map Sum.inr).map Sum.inr) else (if (decide (x_79.2.2 = 8000)) = true then (((some (⟨(thread_Do_1.m x_79.1 (⟨([] : List api_Event), 5⟩ : api_Run)).Events, (thread_Do_1.m x_79.1 (⟨([] : List api_Event), 5⟩ : api_Run)).Status⟩ : api_Run)).map Sum.inr).map Sum.inr) else (if 0 ≤ x_79.2.1 ∧ x_79.2.1 < (a0.length : Int) then ((thread_thread_step.m x_79.1 (⟨(gi a0 x_79.2.1).Op, (gi a0 x_79.2.1).T, (gi a0 x_79.2.1).A, (gi a0 x_79.2.1).B, (gi a0 x_79.2.1).Imm⟩ : api_Inst)).bind fun r_136 => match r_136 with | .inl p_138 => (((some (⟨(thread_Do_1_v1.m p_138.2 (⟨([] : List api_Event), 0⟩ : api_Run) p_138.1).Events, (thread_Do_1_v1.m p_138.2 (⟨([] : List api_Event), 0⟩ : api_Run) p_138.1).Status⟩ : api_Run)).map Sum.inr).map Sum.inr) | .inr r_137 => (some (Sum.inl (r_137.2, wrap64 (x_79.2.1 + r_137.1), wrap64 (x_79.2.2 + 1))))) else none))
def thread_Do.m (a0 : List api_Inst) (a1 : Int) (a2 : Int) (a3 : List Int) : Option api_Run :=
 if ((((decide (a1 < 0)) || (decide (a1 > 16))) || (decide (a2 < 0))) || (decide (a2 ≥ 3))) = true then (some (⟨([] : List api_Event), 0⟩ : api_Run)) else ((loop (thread_Do.l0 a0) 0 : Option (Unit ⊕ api_Run)).bind fun o_13 => match o_13 with | .inl s_15 => ((loop (thread_Do.l1 a0) ((⟨a0, a1, wrap64 (1048576 + (wrap64 (a2 * 65536))), a3, (vp (vp (Vector.replicate 32 (⟨0, 0⟩ : thread_cell)) 1 (⟨wrap64 (1048576 + (wrap64 (a2 * 65536))), (vg (Vector.replicate 32 (⟨0, 0⟩ : thread_cell)) 1).hang⟩ : thread_cell)) 2 (⟨65536, (vg (vp (Vector.replicate 32 (⟨0, 0⟩ : thread_cell)) 1 (⟨wrap64 (1048576 + (wrap64 (a2 * 65536))), (vg (Vector.replicate 32 (⟨0, 0⟩ : thread_cell)) 1).hang⟩ : thread_cell)) 2).hang⟩ : thread_cell)), (Vector.replicate 400 (⟨0, 0⟩ : thread_cell)), false, false, 0, 0, 0, (-1), 0, ([] : List api_Event)⟩ : thread_thread), 0, 0) : Option (Empty ⊕ api_Run)).bind fun o_76 => match o_76 with | .inl s_78 => nomatch s_78 | .inr r_187 => some r_187) | .inr r_188 => some r_188)
set_option maxHeartbeats 4000000 in
set_option maxRecDepth 100000 in
theorem thread_Do.calls (a0 : List api_Inst) (A_1 : Option Addr) (c_2 : Nat) (a1 : Int) (a2 : Int) (a3 : List Int) (A_4 : Option Addr) (c_5 : Nat) (r : api_Run) (w : World) (F : Nat → Prop) (hF : ∀ k, F k → Off w [] k) (q_3 : RdS api_Inst_E F w A_1 c_2 a0) (q_6 : RdS (intE .i64) F w A_4 c_5 a3) (H : thread_Do.m a0 a1 a2 a3 = some r) :
 Ret Try.prog 11 [.slice A_1 a0.length c_2, .int .i64 a1, .int .i64 a2, .slice A_4 a3.length c_5] w fun v w' => ∃ (A_1189 : Option Addr) (c_1190 : Nat) (X_1192 : Rsc), v = .agg #[.slice A_1189 r.Events.length c_1190, .int .i64 r.Status] ∧ Own api_Event_E no wz 33 A_1189 c_1190 r.Events X_1192 ∧ Aft w w' [] [X_1192] := by
 unfold thread_Do.m at H
 have hp0 := Hp.startR (R := []) (Have.nil w) hF
 have ep0 := Ep.refl F [] w
 refine enterD (L := [(0, .slice A_1 a0.length c_2), (1, .int .i64 a1), (2, .int .i64 a2), (3, .slice A_4 a3.length c_5)]) Try.func11 rfl Try.ntmps11 rfl rfl ?_
 refine k_seq ?_
 refine k_region ?_
 refine s_alloc (zv := .agg #[.slice none 0 0, .int .i64 0]) (l := [.slice none 0 0, .int .i64 0]) hp0 (by intro w_; kernel_rfl) rfl rfl (fun b_7 w_8 hp_9 => ?_)
 refine k_nil ?_
 refine k_seq ?_
 refine kq tb hp_9 [] [(29, .bool ((((decide (a1 < 0)) || (decide (a1 > 16))) || (decide (a2 < 0))) || (decide (a2 ≥ 3))))] (by kernel_rfl) fun σ => ?_
 refine k_if (tm rfl rfl) (fun h_10 => ?_) (fun h_10 => ?_)
 ·have H := ift h_10 H
  refine k_seq ?_
  refine k_region ?_
  refine sv (v := .agg #[.slice none 0 0, .int .i64 0]) rfl rfl rfl (e_build (vs := []) (cs := [.slice none 0 0, .int .i64 0]) .nil (by kernel_rfl)) ?_
  refine s_store (i := 0) (j := 0) (vs := [.slice none 0 0, .int .i64 0]) (l' := [.slice none 0 0, .int .i64 0]) hp_9 (tm rfl rfl) (tm rfl rfl) rfl Try.sizeOf28 rfl rfl rfl rfl rfl rfl (fun w_11 hp_12 => ?_)
  refine k_nil ?_
  refine k_ret ?_
  obtain rfl := Option.some.inj H
  exact lv_nod rfl (.cell rfl rfl (r_loadA Try.isAgg28 Try.sizeOf28 rfl (cells_box (sz := 2) (hp_12.get (i := 0) (j := 0) rfl rfl) rfl)) .nil) rfl ⟨none, 0, [], rfl, Own.nil _ _ _ _, (hp_12.pick [1] (by decide) rfl).aft⟩
 have H := iff_ h_10 H
 refine k_skip ?_
 refine k_seq ?_
 refine kq tb hp_9 [] [(31, .slice A_1 a0.length c_2), (32, .int .i64 (a0.length : Int)), (33, .int .i64 0)] (by kernel_rfl) fun σ => ?_
 obtain ⟨o_13, H, G_14⟩ := bindSome H
 refine k_cut (fun a w' => ∃ (s_15 : Unit) (σ_189 : Nat → Value), o_13 = Sum.inl s_15 ∧ a = st 91 [(0, .slice A_1 a0.length c_2), (1, .int .i64 a1), (2, .int .i64 a2), (3, .slice A_4 a3.length c_5), (8, .pointer (some ⟨b_7, 0, none⟩))] σ_189 [] ∧ Hp (On []) F w w w' [[(b_7, .cells #[.slice none 0 0, .int .i64 0] 28 (0, 0))]]) ?_ ?_
 ·as_aux_lemma =>
  refine k_block ?_
  refine k_lp (fun (x_16 : Int) a w' => ∃ (σ_45 : Nat → Value), a = st 91 [(0, .slice A_1 a0.length c_2), (1, .int .i64 a1), (2, .int .i64 a2), (3, .slice A_4 a3.length c_5), (8, .pointer (some ⟨b_7, 0, none⟩)), (31, .slice A_1 a0.length c_2), (32, .int .i64 (a0.length : Int)), (33, .int .i64 x_16)] σ_45 [] ∧ Hp (On []) F w w w' [[(b_7, .cells #[.slice none 0 0, .int .i64 0] 28 (0, 0))]]) H ⟨_, seenF ⟨rfl, rfl, rfl, rfl, rfl, rfl, rfl, rfl, trivial⟩, hp_9⟩ ?_
  clear H
  rintro x_16 a w' z_ ⟨σ_19, rfl, hp_20⟩ H hz_17
  unfold thread_Do.l0 at H
  refine kq tb hp_20 [] [(34, .bool (decide (x_16 < (a0.length : Int))))] (by kernel_rfl) fun σ => ?_
  refine k_seq ?_
  refine k_if (tm rfl rfl) (fun h_23 => ?_) (fun h_23 => ?_)
  ·as_aux_lemma =>
   have H := ift h_23 H
   refine k_skip ?_
   refine k_seq ?_
   refine k_block ?_
   refine k_seq ?_
   refine k_region ?_
   obtain ⟨g_24, H⟩ := grd H
   obtain ⟨a_29, cs_26, pl_27, q_28, rp_25⟩ := rd_idx q_3 g_24
   obtain rfl : cs_26 = [.int .i64 ((gi a0 x_16).Op), .int .i64 ((gi a0 x_16).T), .int .i64 ((gi a0 x_16).A), .int .i64 ((gi a0 x_16).B), .int .i64 ((gi a0 x_16).Imm)] := rp_25
   refine srx tb hp_20 [⟨_, _, (hp_20.ep q_28)⟩] [.s 35 1 _ _ c_2 _ 5 _ pl_27 g_24] [] [] [] 2 [(36, .agg #[.int .i64 ((gi a0 x_16).Op), .int .i64 ((gi a0 x_16).T), .int .i64 ((gi a0 x_16).A), .int .i64 ((gi a0 x_16).B), .int .i64 ((gi a0 x_16).Imm)])] (by kernel_rfl) fun σ => ?_
   refine s_alloc (zv := .agg #[.int .i64 0, .int .i64 0, .int .i64 0, .int .i64 0, .int .i64 0]) (l := [.int .i64 0, .int .i64 0, .int .i64 0, .int .i64 0, .int .i64 0]) hp_20 (by intro w_; kernel_rfl) rfl rfl (fun b_30 w_31 hp_32 => ?_)
   refine s_store (i := 1) (j := 0) (vs := [.int .i64 ((gi a0 x_16).Op), .int .i64 ((gi a0 x_16).T), .int .i64 ((gi a0 x_16).A), .int .i64 ((gi a0 x_16).B), .int .i64 ((gi a0 x_16).Imm)]) (l' := [.int .i64 ((gi a0 x_16).Op), .int .i64 ((gi a0 x_16).T), .int .i64 ((gi a0 x_16).A), .int .i64 ((gi a0 x_16).B), .int .i64 ((gi a0 x_16).Imm)]) hp_32 (tm rfl rfl) (tm rfl rfl) rfl Try.sizeOf44 rfl rfl rfl rfl rfl rfl (fun w_33 hp_34 => ?_)
   refine k_nil ?_
   refine k_seq ?_
   refine k_region ?_
   refine sv (v := .agg #[.int .i64 ((gi a0 x_16).Op), .int .i64 ((gi a0 x_16).T), .int .i64 ((gi a0 x_16).A), .int .i64 ((gi a0 x_16).B), .int .i64 ((gi a0 x_16).Imm)]) rfl rfl rfl (e_loadA (tm rfl rfl) Try.isAgg44 Try.sizeOf44 rfl (cells_box (sz := 5) (hp_34.get (i := 1) (j := 0) rfl rfl) rfl)) ?_
   obtain ⟨r_37, hx_36, H⟩ := bindSome H
   refine s_call (.cons (tm rfl rfl) .nil) Try.call18 (isa_Encode.calls (⟨(gi a0 x_16).Op, (gi a0 x_16).T, (gi a0 x_16).A, (gi a0 x_16).B, (gi a0 x_16).Imm⟩ : api_Inst) r_37 _ hx_36) rfl ?_
   rintro v_ w_38 ⟨rfl, af_41⟩
   have hp_39 := Hp.callA af_41 hp_34
   refine sv (v := .tuple #[.int .u32 r_37.1, .int .i64 r_37.2]) rfl rfl rfl (e_move (tm rfl rfl)) ?_
   refine sr tb hp_39 [] 4 [(12, .int .i64 r_37.2)] (by kernel_rfl) fun σ => ?_
   refine k_nil ?_
   refine kq tb hp_39 [] [(43, .bool (!decide (r_37.2 = 0)))] (by kernel_rfl) fun σ => ?_
   refine k_if (tm rfl rfl) (fun h_42 => ?_) (fun h_42 => ?_)
   ·have H := ift h_42 H
    refine k_seq ?_
    refine k_region ?_
    refine sv (v := .agg #[.slice none 0 0, .int .i64 0]) rfl rfl rfl (e_build (vs := []) (cs := [.slice none 0 0, .int .i64 0]) .nil (by kernel_rfl)) ?_
    refine s_store (i := 0) (j := 0) (vs := [.slice none 0 0, .int .i64 0]) (l' := [.slice none 0 0, .int .i64 0]) hp_39 (tm rfl rfl) (tm rfl rfl) rfl Try.sizeOf28 rfl rfl rfl rfl rfl rfl (fun w_43 hp_44 => ?_)
    refine k_nil ?_
    refine k_ret ?_
    refine q_ret ?_
    refine q_ret ?_
    obtain ⟨v_, H', hv_⟩ := mapSome H
    have hv_ := hz_17 _ hv_
    subst hv_
    have H := H'
    clear H'
    obtain ⟨v_, H', hv_⟩ := mapSome H
    subst hv_
    have H := H'.trans (show some v_ = _ from G_14)
    obtain rfl := Option.some.inj H
    exact lv_nod rfl (.cell rfl rfl (r_loadA Try.isAgg28 Try.sizeOf28 rfl (cells_box (sz := 2) (hp_44.get (i := 0) (j := 0) rfl rfl) rfl)) .nil) rfl ⟨none, 0, [], rfl, Own.nil _ _ _ _, (hp_44.pick [2] (by decide) rfl).aft⟩
   have H := iff_ h_42 H
   refine k_skip ?_
   refine kr tb hp_39 [] [(33, .int .i64 (wrap64 (x_16 + 1)))] (by kernel_rfl) fun σ => ?_
   obtain rfl := Option.some.inj H
   exact ⟨_, rfl, ⟨_, seenF ⟨rfl, rfl, rfl, rfl, rfl, rfl, rfl, rfl, trivial⟩, hp_39.pick [0] (by decide) rfl⟩⟩
  have H := iff_ h_23 H
  refine k_exit ?_
  refine q_here ?_
  obtain ⟨v_, H', hv_⟩ := mapSome H
  have hv_ := hz_17 _ hv_
  subst hv_
  have H := H'
  clear H'
  obtain rfl := Option.some.inj H
  exact ⟨(), _, rfl, seenF ⟨rfl, rfl, rfl, rfl, rfl, trivial⟩, hp_20⟩
 clear H
 rintro a w' ⟨s_15, σ_45, rfl, rfl, hp_46⟩
 have H := G_14
 refine k_seq ?_
 refine k_region ?_
 refine sr tb hp_46 [] 6 [(46, .slice A_1 a0.length c_2), (47, .int .i64 a1), (50, .int .i64 (wrap64 (1048576 + (wrap64 (a2 * 65536))))), (51, .slice A_4 a3.length c_5)] (by kernel_rfl) fun σ => ?_
 refine sv (v := .agg (([.slice A_1 a0.length c_2, .int .i64 a1, .int .i64 (wrap64 (1048576 + (wrap64 (a2 * 65536)))), .slice A_4 a3.length c_5] : List Value) ++ ((List.replicate 32 ([.int .i64 0, .int .u64 0] : List Value)).flatten ++ (([] : List Value) ++ ((List.replicate 400 ([.int .i64 0, .int .u64 0] : List Value)).flatten ++ ([.bool false, .bool false, .int .u64 0, .int .u64 0, .int .u64 0, .int .i64 (-1), .int .i64 0, .slice none 0 0] : List Value))))).toArray) rfl rfl rfl (e_build (vs := [(0, .slice A_1 a0.length c_2), (1, .int .i64 a1), (2, .int .i64 (wrap64 (1048576 + (wrap64 (a2 * 65536))))), (3, .slice A_4 a3.length c_5), (11, .int .i64 (-1))]) (cs := (([.slice A_1 a0.length c_2, .int .i64 a1, .int .i64 (wrap64 (1048576 + (wrap64 (a2 * 65536)))), .slice A_4 a3.length c_5] : List Value) ++ ((List.replicate 32 ([.int .i64 0, .int .u64 0] : List Value)).flatten ++ (([] : List Value) ++ ((List.replicate 400 ([.int .i64 0, .int .u64 0] : List Value)).flatten ++ ([.bool false, .bool false, .int .u64 0, .int .u64 0, .int .u64 0, .int .i64 (-1), .int .i64 0, .slice none 0 0] : List Value)))))) (.cons (tm rfl rfl) (.cons (tm rfl rfl) (.cons (tm rfl rfl) (.cons (tm rfl rfl) (.cons rfl .nil))))) (by kernel_rfl)) ?_
 refine s_box (l := (([.slice A_1 a0.length c_2, .int .i64 a1, .int .i64 (wrap64 (1048576 + (wrap64 (a2 * 65536)))), .slice A_4 a3.length c_5] : List Value) ++ ((List.replicate 32 ([.int .i64 0, .int .u64 0] : List Value)).flatten ++ (([] : List Value) ++ ((List.replicate 400 ([.int .i64 0, .int .u64 0] : List Value)).flatten ++ ([.bool false, .bool false, .int .u64 0, .int .u64 0, .int .u64 0, .int .i64 (-1), .int .i64 0, .slice none 0 0] : List Value)))))) hp_46 (tm rfl rfl) rfl rfl (fun b_49 w_50 hp_51 => ?_)
 refine s_alloc (zv := .pointer none) (l := [.pointer none]) hp_51 (by intro w_; kernel_rfl) rfl rfl (fun b_52 w_53 hp_54 => ?_)
 refine s_store (i := 2) (j := 0) (vs := [.pointer (some ⟨b_49, 0, none⟩)]) (l' := [.pointer (some ⟨b_49, 0, none⟩)]) hp_54 (tm rfl rfl) (tm rfl rfl) rfl Try.sizeOf53 rfl rfl rfl rfl rfl rfl (fun w_55 hp_56 => ?_)
 refine k_nil ?_
 refine k_seq ?_
 refine k_anyF [[0, 2], [0, 2], [0, 1, 2], [0, 1, 2], [0, 1, 2], [0, 1, 2], [0, 2], [0, 2], [0, 1, 2], [0, 1, 2], [0, 2], [0, 2], [0, 2], [0, 2], [0, 2], [0, 2]] [0, 0, 0, 4, 12, 28, 1, 65, 253, 509, 1021, 2, 2050, 8191, 16383, 32767] mixed hp_56 16 (by kernel_rfl) (fun w_57 hp_58 => ?_)
 refine w_take (m' := 1) (v := .pointer (some ⟨b_49, 0, none⟩)) 0 rfl rfl (by kernel_rfl) (by kernel_rfl) (by kernel_rfl) (by kernel_rfl) (by kernel_rfl) (by kernel_rfl) (by kernel_rfl) (po_then (po_bodyD rfl rfl)) (Wp.of hp_58 [0, 2] rfl) (y_val (fun w_ hW_ => e_load1 (tm rfl rfl) Try.isAgg53 (cell_atL (hW_.get (i := 2) (j := 0) rfl rfl) rfl))) ?_
 refine w_take (m' := 65) (v := .pointer (some ⟨b_49, 0, none⟩)) 6 rfl rfl (by kernel_rfl) (by kernel_rfl) (by kernel_rfl) (by kernel_rfl) (by kernel_rfl) (by kernel_rfl) (by kernel_rfl) (po_then (po_bodyD rfl rfl)) (Wp.of hp_58 [0, 2] rfl) (y_val (fun w_ hW_ => e_nilCheckP (tm rfl rfl))) ?_
 refine w_take (m' := 193) (v := .pointer (some ⟨b_49, 4, none⟩)) 7 rfl rfl (by kernel_rfl) (by kernel_rfl) (by kernel_rfl) (by kernel_rfl) (by kernel_rfl) (by kernel_rfl) (by kernel_rfl) (po_then (po_bodyD rfl rfl)) (Wp.of hp_58 [0, 2] rfl) (y_val (fun w_ hW_ => e_fieldAddr (tm rfl rfl) Try.runUnderlying59 rfl Try.sizeOf56 rfl rfl)) ?_
 refine w_take (m' := 195) (v := .pointer (some ⟨b_49, 0, none⟩)) 1 rfl rfl (by kernel_rfl) (by kernel_rfl) (by kernel_rfl) (by kernel_rfl) (by kernel_rfl) (by kernel_rfl) (by kernel_rfl) (po_then (po_bodyD rfl rfl)) (Wp.of hp_58 [0, 2] rfl) (y_val (fun w_ hW_ => e_load1 (tm rfl rfl) Try.isAgg53 (cell_atL (hW_.get (i := 2) (j := 0) rfl rfl) rfl))) ?_
 refine w_take (m' := 2243) (v := .pointer (some ⟨b_49, 0, none⟩)) 11 rfl rfl (by kernel_rfl) (by kernel_rfl) (by kernel_rfl) (by kernel_rfl) (by kernel_rfl) (by kernel_rfl) (by kernel_rfl) (po_then (po_bodyD rfl rfl)) (Wp.of hp_58 [0, 2] rfl) (y_val (fun w_ hW_ => e_nilCheckP (tm rfl rfl))) ?_
 refine w_take (m' := 6339) (v := .pointer (some ⟨b_49, 4, none⟩)) 12 rfl rfl (by kernel_rfl) (by kernel_rfl) (by kernel_rfl) (by kernel_rfl) (by kernel_rfl) (by kernel_rfl) (by kernel_rfl) (po_then (po_bodyD rfl rfl)) (Wp.of hp_58 [0, 2] rfl) (y_val (fun w_ hW_ => e_fieldAddr (tm rfl rfl) Try.runUnderlying59 rfl Try.sizeOf56 rfl rfl)) ?_
 refine w_take (m' := 6343) (v := .pointer (some ⟨b_49, 0, none⟩)) 2 rfl rfl (by kernel_rfl) (by kernel_rfl) (by kernel_rfl) (by kernel_rfl) (by kernel_rfl) (by kernel_rfl) (by kernel_rfl) (po_then (po_bodyD rfl rfl)) (Wp.of hp_58 [0, 1, 2] rfl) (y_val (fun w_ hW_ => e_load1 (tm rfl rfl) Try.isAgg53 (cell_atL (hW_.get (i := 2) (j := 0) rfl rfl) rfl))) ?_
 refine w_take (m' := 6351) (v := .pointer (some ⟨b_49, 0, none⟩)) 3 rfl rfl (by kernel_rfl) (by kernel_rfl) (by kernel_rfl) (by kernel_rfl) (by kernel_rfl) (by kernel_rfl) (by kernel_rfl) (po_then (po_bodyD rfl rfl)) (Wp.of hp_58 [0, 1, 2] rfl) (y_val (fun w_ hW_ => e_nilCheckP (tm rfl rfl))) ?_
 refine w_take (m' := 6367) (v := .pointer (some ⟨b_49, 2, none⟩)) 4 rfl rfl (by kernel_rfl) (by kernel_rfl) (by kernel_rfl) (by kernel_rfl) (by kernel_rfl) (by kernel_rfl) (by kernel_rfl) (po_then (po_bodyD rfl rfl)) (Wp.of hp_58 [0, 1, 2] rfl) (y_val (fun w_ hW_ => e_fieldAddr (tm rfl rfl) Try.runUnderlying59 rfl Try.sizeOf2 rfl rfl)) ?_
 refine w_take (m' := 6399) (v := .int .i64 (wrap64 (1048576 + (wrap64 (a2 * 65536))))) 5 rfl rfl (by kernel_rfl) (by kernel_rfl) (by kernel_rfl) (by kernel_rfl) (by kernel_rfl) (by kernel_rfl) (by kernel_rfl) (po_then (po_bodyD rfl rfl)) (Wp.of hp_58 [0, 1, 2] rfl) (y_val (fun w_ hW_ => e_load1 (tm rfl rfl) Try.isAgg2 (cell_atL (hW_.get (i := 1) (j := 0) rfl rfl) rfl))) ?_
 obtain ⟨cs_60, rp_59, q_61⟩ := arr_elem (rep_vec (E := thread_cell_E) (F := no) (w := wz) (x := (⟨0, 0⟩ : thread_cell)) rfl) (show 0 ≤ (1 : Int) ∧ (1 : Int) < (32 : Int) by decide)
 obtain rfl : cs_60 = [.int .i64 ((vg (Vector.replicate 32 (⟨0, 0⟩ : thread_cell)) 1).n), .int .u64 ((vg (Vector.replicate 32 (⟨0, 0⟩ : thread_cell)) 1).hang)] := rp_59
 refine w_take (m' := 6655) (v := .pointer (some ⟨b_49, 4 + (1 : Int).toNat * 2, none⟩)) 8 rfl rfl (by kernel_rfl) (by kernel_rfl) (by kernel_rfl) (by kernel_rfl) (by kernel_rfl) (by kernel_rfl) (by kernel_rfl) (po_then (po_bodyD rfl rfl)) (Wp.of hp_58 [0, 1, 2] rfl) (y_val (fun w_ hW_ => e_aidx (tm rfl rfl) rfl Try.runUnderlying56 Try.sizeOf55 (show 0 ≤ (1 : Int) ∧ (1 : Int) < (32 : Int) by decide))) ?_
 refine w_take (m' := 7167) (v := .pointer (some ⟨b_49, 4 + (1 : Int).toNat * 2, none⟩)) 9 rfl rfl (by kernel_rfl) (by kernel_rfl) (by kernel_rfl) (by kernel_rfl) (by kernel_rfl) (by kernel_rfl) (by kernel_rfl) (po_then (po_bodyD rfl rfl)) (Wp.of hp_58 [0, 1, 2] rfl) (y_val (fun w_ hW_ => e_fieldAddr (tm rfl rfl) Try.runUnderlying55 rfl Try.sizeOf2 rfl rfl)) ?_
 refine w_one (m' := 8191) 10 rfl (by kernel_rfl) (by kernel_rfl) ?_
 refine s_storeA (E := thread_cell_E) (i := 1) (inn := 0) (r := 1) (el := (⟨wrap64 (1048576 + (wrap64 (a2 * 65536))), (vg (Vector.replicate 32 (⟨0, 0⟩ : thread_cell)) 1).hang⟩ : thread_cell)) (vs := [.int .i64 (wrap64 (1048576 + (wrap64 (a2 * 65536))))]) (pre := ([.slice A_1 a0.length c_2, .int .i64 a1, .int .i64 (wrap64 (1048576 + (wrap64 (a2 * 65536)))), .slice A_4 a3.length c_5] : List Value)) (post := ([] : List Value) ++ ((List.replicate 400 ([.int .i64 0, .int .u64 0] : List Value)).flatten ++ ([.bool false, .bool false, .int .u64 0, .int .u64 0, .int .u64 0, .int .i64 (-1), .int .i64 0, .slice none 0 0] : List Value))) (fun q_ => (([.slice A_1 a0.length c_2, .int .i64 a1, .int .i64 (wrap64 (1048576 + (wrap64 (a2 * 65536)))), .slice A_4 a3.length c_5] : List Value) ++ (q_ ++ (([] : List Value) ++ ((List.replicate 400 ([.int .i64 0, .int .u64 0] : List Value)).flatten ++ ([.bool false, .bool false, .int .u64 0, .int .u64 0, .int .u64 0, .int .i64 (-1), .int .i64 0, .slice none 0 0] : List Value)))))) hp_58 (tm rfl rfl) (tm rfl rfl) rfl Try.sizeOf2 rfl rfl rfl rfl (fun _ => rfl) rfl (rep_vec (E := thread_cell_E) (F := no) (w := wz) (x := (⟨0, 0⟩ : thread_cell)) rfl) (show 0 ≤ (1 : Int) ∧ (1 : Int) < (32 : Int) by decide) rfl q_61 rfl (fun w_62 cs_64 hp_63 q_65 => ?_)
 refine k_nil ?_
 refine ⟨(Wp.of hp_63 [0, 2] rfl), ?_⟩
 obtain ⟨cs_67, rp_66, q_68⟩ := arr_elem (rep_vec (E := thread_cell_E) (F := no) (w := wz) (x := (⟨0, 0⟩ : thread_cell)) rfl) (show 0 ≤ (2 : Int) ∧ (2 : Int) < (32 : Int) by decide)
 obtain rfl : cs_67 = [.int .i64 ((vg (Vector.replicate 32 (⟨0, 0⟩ : thread_cell)) 2).n), .int .u64 ((vg (Vector.replicate 32 (⟨0, 0⟩ : thread_cell)) 2).hang)] := rp_66
 refine w_take (m' := 16383) (v := .pointer (some ⟨b_49, 4 + (2 : Int).toNat * 2, none⟩)) 13 rfl rfl (by kernel_rfl) (by kernel_rfl) (by kernel_rfl) (by kernel_rfl) (by kernel_rfl) (by kernel_rfl) (by kernel_rfl) (po_then (po_bodyD rfl rfl)) (Wp.of hp_63 [0, 2] rfl) (y_val (fun w_ hW_ => e_aidx (tm rfl rfl) rfl Try.runUnderlying56 Try.sizeOf55 (show 0 ≤ (2 : Int) ∧ (2 : Int) < (32 : Int) by decide))) ?_
 refine w_take (m' := 32767) (v := .pointer (some ⟨b_49, 4 + (2 : Int).toNat * 2, none⟩)) 14 rfl rfl (by kernel_rfl) (by kernel_rfl) (by kernel_rfl) (by kernel_rfl) (by kernel_rfl) (by kernel_rfl) (by kernel_rfl) (po_then (po_bodyD rfl rfl)) (Wp.of hp_63 [0, 2] rfl) (y_val (fun w_ hW_ => e_fieldAddr (tm rfl rfl) Try.runUnderlying55 rfl Try.sizeOf2 rfl rfl)) ?_
 refine w_one (m' := 65535) 15 rfl (by kernel_rfl) (by kernel_rfl) ?_
 obtain ⟨cs_72, rp_71, q_73⟩ := arr_elem q_65 (show 0 ≤ (2 : Int) ∧ (2 : Int) < (32 : Int) by decide)
 obtain rfl : cs_72 = [.int .i64 ((vg (vp (Vector.replicate 32 (⟨0, 0⟩ : thread_cell)) 1 (⟨wrap64 (1048576 + (wrap64 (a2 * 65536))), (vg (Vector.replicate 32 (⟨0, 0⟩ : thread_cell)) 1).hang⟩ : thread_cell)) 2).n), .int .u64 ((vg (vp (Vector.replicate 32 (⟨0, 0⟩ : thread_cell)) 1 (⟨wrap64 (1048576 + (wrap64 (a2 * 65536))), (vg (Vector.replicate 32 (⟨0, 0⟩ : thread_cell)) 1).hang⟩ : thread_cell)) 2).hang)] := rp_71
 refine s_storeA (E := thread_cell_E) (i := 2) (inn := 0) (r := 1) (el := (⟨65536, (vg (vp (Vector.replicate 32 (⟨0, 0⟩ : thread_cell)) 1 (⟨wrap64 (1048576 + (wrap64 (a2 * 65536))), (vg (Vector.replicate 32 (⟨0, 0⟩ : thread_cell)) 1).hang⟩ : thread_cell)) 2).hang⟩ : thread_cell)) (vs := [.int .i64 65536]) (pre := ([.slice A_1 a0.length c_2, .int .i64 a1, .int .i64 (wrap64 (1048576 + (wrap64 (a2 * 65536)))), .slice A_4 a3.length c_5] : List Value)) (post := ([] : List Value) ++ ((List.replicate 400 ([.int .i64 0, .int .u64 0] : List Value)).flatten ++ ([.bool false, .bool false, .int .u64 0, .int .u64 0, .int .u64 0, .int .i64 (-1), .int .i64 0, .slice none 0 0] : List Value))) (fun q_ => (([.slice A_1 a0.length c_2, .int .i64 a1, .int .i64 (wrap64 (1048576 + (wrap64 (a2 * 65536)))), .slice A_4 a3.length c_5] : List Value) ++ (q_ ++ (([] : List Value) ++ ((List.replicate 400 ([.int .i64 0, .int .u64 0] : List Value)).flatten ++ ([.bool false, .bool false, .int .u64 0, .int .u64 0, .int .u64 0, .int .i64 (-1), .int .i64 0, .slice none 0 0] : List Value)))))) hp_63 (tm rfl rfl) rfl rfl Try.sizeOf2 rfl rfl rfl rfl (fun _ => rfl) rfl q_65 (show 0 ≤ (2 : Int) ∧ (2 : Int) < (32 : Int) by decide) rfl q_73 rfl (fun w_69 cs_74 hp_70 q_75 => ?_)
 refine k_nil ?_
 refine ⟨(Wp.of hp_70 [0, 2] rfl), ?_⟩
 refine w_done (by kernel_rfl) ?_
 refine k_seq ?_
 refine k_region ?_
 refine sv (v := .func (.func 19) #[] #[.pointer (some ⟨b_52, 0, none⟩), .pointer (some ⟨b_7, 0, none⟩)]) rfl rfl rfl (e_makeFunc .nil (.cons (tm rfl rfl) (.cons (tm rfl rfl) .nil))) ?_
 refine s_defer (caps := [.pointer (some ⟨b_52, 0, none⟩), .pointer (some ⟨b_7, 0, none⟩)]) (tm rfl rfl) ?_
 refine k_nil ?_
 refine kq tb hp_70 [] [(14, .int .i64 0), (15, .int .i64 0)] (by kernel_rfl) fun σ => ?_
 obtain ⟨o_76, H, G_77⟩ := bindSome H
 refine k_block ?_
 refine k_lp (fun (x_79 : thread_thread × Int × Int) a w' => ∃ (σ_187 : Nat → Value) (A_192 : Option Addr) (c_193 : Nat) (cs_195 : List Value) (cs_197 : List Value) (A_199 : Option Addr) (c_200 : Nat) (X_202 : Rsc), a = st 91 [(0, .slice A_1 a0.length c_2), (8, .pointer (some ⟨b_7, 0, none⟩)), (13, .pointer (some ⟨b_52, 0, none⟩)), (14, .int .i64 x_79.2.1), (15, .int .i64 x_79.2.2), (68, .func (.func 19) #[] #[.pointer (some ⟨b_52, 0, none⟩), .pointer (some ⟨b_7, 0, none⟩)])] σ_187 [⟨.fn (.func 19) #[.pointer (some ⟨b_52, 0, none⟩), .pointer (some ⟨b_7, 0, none⟩)], #[]⟩] ∧ Hp (On []) F w w w' [[(b_7, .cells #[.slice none 0 0, .int .i64 0] 28 (0, 0))], [(b_52, .cells #[.pointer (some ⟨b_49, 0, none⟩)] 53 (0, 0))], [(b_49, .cells (([.slice A_1 x_79.1.code.length c_2, .int .i64 x_79.1.locs, .int .i64 x_79.1.base, .slice A_192 x_79.1.answers.length c_193] : List Value) ++ (cs_195 ++ (([] : List Value) ++ (cs_197 ++ ([.bool x_79.1.less, .bool x_79.1.same, .int .u64 x_79.1.held, .int .u64 x_79.1.ctrl, .int .u64 x_79.1.fenced, .int .i64 x_79.1.hold, .int .i64 x_79.1.event, .slice A_199 x_79.1.out.length c_200] : List Value))))).toArray 59 (0, 0))], X_202] ∧ RdS api_Inst_E F w A_1 c_2 x_79.1.code ∧ RdS (intE .i64) F w A_192 c_193 x_79.1.answers ∧ Reps thread_cell_E no wz x_79.1.regs.toList cs_195 ∧ Reps thread_cell_E no wz x_79.1.stack.toList cs_197 ∧ Own api_Event_E no wz 33 A_199 c_200 x_79.1.out X_202) H ⟨_, A_4, c_5, cs_74, (List.replicate 400 ([.int .i64 0, .int .u64 0] : List Value)).flatten, none, 0, [], seenF ⟨rfl, rfl, rfl, rfl, rfl, rfl, trivial⟩, hp_70.pick [0, 2, 1, 3] (by decide) rfl, q_3, q_6, q_75, (rep_vec (E := thread_cell_E) (F := no) (w := wz) (x := (⟨0, 0⟩ : thread_cell)) rfl), Own.nil _ _ _ _⟩ ?_
 clear H
 rintro x_79 a w' z_ ⟨σ_82, A_87, c_88, cs_90, cs_92, A_94, c_95, X_97, rfl, hp_83, q_86, q_89, q_91, q_93, q_96⟩ H hz_80
 unfold thread_Do.l1 at H
 refine k_seq ?_
 refine k_block ?_
 refine k_seq ?_
 refine kq tb hp_83 [] [(74, bif (!(decide (x_79.2.1 < 0))) then (.int .i64 x_79.2.1) else undef), (75, bif (!(decide (x_79.2.1 < 0))) then (.slice A_1 a0.length c_2) else undef), (76, bif (!(decide (x_79.2.1 < 0))) then (.int .i64 (a0.length : Int)) else undef), (77, bif (!(decide (x_79.2.1 < 0))) then (.bool (decide (x_79.2.1 ≥ (a0.length : Int)))) else undef), (78, .bool ((decide (x_79.2.1 < 0)) || (decide (x_79.2.1 ≥ (a0.length : Int)))))] (by kernel_rfl) fun σ => ?_
 refine k_if (tm rfl rfl) (fun h_98 => ?_) (fun h_98 => ?_)
 ·have H := ift h_98 H
  refine k_seq ?_
  refine k_region ?_
  refine sv (v := .agg #[.slice none 0 0, .int .i64 6]) rfl rfl rfl (e_build (vs := [(1, .int .i64 6)]) (cs := [.slice none 0 0, .int .i64 6]) (.cons rfl .nil) (by kernel_rfl)) ?_
  refine s_store (i := 0) (j := 0) (vs := [.slice none 0 0, .int .i64 6]) (l' := [.slice none 0 0, .int .i64 6]) hp_83 (tm rfl rfl) (tm rfl rfl) rfl Try.sizeOf28 rfl rfl rfl rfl rfl rfl (fun w_99 hp_100 => ?_)
  refine k_nil ?_
  refine k_ret ?_
  refine q_ret ?_
  refine q_ret ?_
  obtain ⟨v_, H', hv_⟩ := mapSome H
  have hv_ := hz_80 _ hv_
  subst hv_
  have H := H'
  clear H'
  obtain ⟨v_, H', hv_⟩ := mapSome H
  subst hv_
  have H := H'.trans (show some v_ = _ from G_77)
  have hp_101 := Hp.pick (R' := [[(b_52, .cells #[.pointer (some ⟨b_49, 0, none⟩)] 53 (0, 0))], [(b_49, .cells (([.slice A_1 x_79.1.code.length c_2, .int .i64 x_79.1.locs, .int .i64 x_79.1.base, .slice A_87 x_79.1.answers.length c_88] : List Value) ++ (cs_90 ++ (([] : List Value) ++ (cs_92 ++ ([.bool x_79.1.less, .bool x_79.1.same, .int .u64 x_79.1.held, .int .u64 x_79.1.ctrl, .int .u64 x_79.1.fenced, .int .i64 x_79.1.hold, .int .i64 x_79.1.event, .slice A_94 x_79.1.out.length c_95] : List Value))))).toArray 59 (0, 0))], X_97, [(b_7, .cells #[.slice none 0 0, .int .i64 6] 28 (0, 0))], []]) [1, 2, 3, 0, 4] hp_100 (by decide) rfl
  refine lv_ret Try.call19 (thread_Do_1.calls x_79.1 b_52 b_49 A_1 c_2 A_87 c_88 cs_90 cs_92 A_94 c_95 X_97 (⟨([] : List api_Event), 6⟩ : api_Run) b_7 none 0 [] _ _ (Hp.offCov hp_101 [[(b_52, .cells #[.pointer (some ⟨b_49, 0, none⟩)] 53 (0, 0))], [(b_49, .cells (([.slice A_1 x_79.1.code.length c_2, .int .i64 x_79.1.locs, .int .i64 x_79.1.base, .slice A_87 x_79.1.answers.length c_88] : List Value) ++ (cs_90 ++ (([] : List Value) ++ (cs_92 ++ ([.bool x_79.1.less, .bool x_79.1.same, .int .u64 x_79.1.held, .int .u64 x_79.1.ctrl, .int .u64 x_79.1.fenced, .int .i64 x_79.1.hold, .int .i64 x_79.1.event, .slice A_94 x_79.1.out.length c_95] : List Value))))).toArray 59 (0, 0))], X_97, [(b_7, .cells #[.slice none 0 0, .int .i64 6] 28 (0, 0))], []] [] rfl) (Hp.have1 hp_101 [[(b_52, .cells #[.pointer (some ⟨b_49, 0, none⟩)] 53 (0, 0))], [(b_49, .cells (([.slice A_1 x_79.1.code.length c_2, .int .i64 x_79.1.locs, .int .i64 x_79.1.base, .slice A_87 x_79.1.answers.length c_88] : List Value) ++ (cs_90 ++ (([] : List Value) ++ (cs_92 ++ ([.bool x_79.1.less, .bool x_79.1.same, .int .u64 x_79.1.held, .int .u64 x_79.1.ctrl, .int .u64 x_79.1.fenced, .int .i64 x_79.1.hold, .int .i64 x_79.1.event, .slice A_94 x_79.1.out.length c_95] : List Value))))).toArray 59 (0, 0))], X_97, [(b_7, .cells #[.slice none 0 0, .int .i64 6] 28 (0, 0))], []] _ rfl) (RdS.pass q_86 hp_101) (RdS.pass q_89 hp_101) q_91 q_93 q_96 (Own.nil _ _ _ _)) ?_
  rintro v_ w_104 ⟨A_108, c_109, X_111, rfl, q_110, af_107⟩
  have hp_105 := Hp.callA af_107 hp_101
  obtain rfl := Option.some.inj H
  exact ⟨_, lv_run rfl (.cell rfl rfl (r_loadA Try.isAgg28 Try.sizeOf28 rfl (cells_box (sz := 2) (hp_105.get (i := 1) (j := 0) rfl rfl) rfl)) .nil) rfl, _, rfl, ⟨A_108, c_109, X_111, rfl, q_110, (hp_105.pick [2] (by decide) rfl).aft⟩⟩
 have H := iff_ h_98 H
 refine k_skip ?_
 refine k_seq ?_
 refine kq tb hp_83 [] [(81, .bool (decide (x_79.2.2 = 8000)))] (by kernel_rfl) fun σ => ?_
 refine k_if (tm rfl rfl) (fun h_112 => ?_) (fun h_112 => ?_)
 ·have H := ift h_112 H
  refine k_seq ?_
  refine k_region ?_
  refine sv (v := .agg #[.slice none 0 0, .int .i64 5]) rfl rfl rfl (e_build (vs := [(1, .int .i64 5)]) (cs := [.slice none 0 0, .int .i64 5]) (.cons rfl .nil) (by kernel_rfl)) ?_
  refine s_store (i := 0) (j := 0) (vs := [.slice none 0 0, .int .i64 5]) (l' := [.slice none 0 0, .int .i64 5]) hp_83 (tm rfl rfl) (tm rfl rfl) rfl Try.sizeOf28 rfl rfl rfl rfl rfl rfl (fun w_113 hp_114 => ?_)
  refine k_nil ?_
  refine k_ret ?_
  refine q_ret ?_
  refine q_ret ?_
  obtain ⟨v_, H', hv_⟩ := mapSome H
  have hv_ := hz_80 _ hv_
  subst hv_
  have H := H'
  clear H'
  obtain ⟨v_, H', hv_⟩ := mapSome H
  subst hv_
  have H := H'.trans (show some v_ = _ from G_77)
  have hp_115 := Hp.pick (R' := [[(b_52, .cells #[.pointer (some ⟨b_49, 0, none⟩)] 53 (0, 0))], [(b_49, .cells (([.slice A_1 x_79.1.code.length c_2, .int .i64 x_79.1.locs, .int .i64 x_79.1.base, .slice A_87 x_79.1.answers.length c_88] : List Value) ++ (cs_90 ++ (([] : List Value) ++ (cs_92 ++ ([.bool x_79.1.less, .bool x_79.1.same, .int .u64 x_79.1.held, .int .u64 x_79.1.ctrl, .int .u64 x_79.1.fenced, .int .i64 x_79.1.hold, .int .i64 x_79.1.event, .slice A_94 x_79.1.out.length c_95] : List Value))))).toArray 59 (0, 0))], X_97, [(b_7, .cells #[.slice none 0 0, .int .i64 5] 28 (0, 0))], []]) [1, 2, 3, 0, 4] hp_114 (by decide) rfl
  refine lv_ret Try.call19 (thread_Do_1.calls x_79.1 b_52 b_49 A_1 c_2 A_87 c_88 cs_90 cs_92 A_94 c_95 X_97 (⟨([] : List api_Event), 5⟩ : api_Run) b_7 none 0 [] _ _ (Hp.offCov hp_115 [[(b_52, .cells #[.pointer (some ⟨b_49, 0, none⟩)] 53 (0, 0))], [(b_49, .cells (([.slice A_1 x_79.1.code.length c_2, .int .i64 x_79.1.locs, .int .i64 x_79.1.base, .slice A_87 x_79.1.answers.length c_88] : List Value) ++ (cs_90 ++ (([] : List Value) ++ (cs_92 ++ ([.bool x_79.1.less, .bool x_79.1.same, .int .u64 x_79.1.held, .int .u64 x_79.1.ctrl, .int .u64 x_79.1.fenced, .int .i64 x_79.1.hold, .int .i64 x_79.1.event, .slice A_94 x_79.1.out.length c_95] : List Value))))).toArray 59 (0, 0))], X_97, [(b_7, .cells #[.slice none 0 0, .int .i64 5] 28 (0, 0))], []] [] rfl) (Hp.have1 hp_115 [[(b_52, .cells #[.pointer (some ⟨b_49, 0, none⟩)] 53 (0, 0))], [(b_49, .cells (([.slice A_1 x_79.1.code.length c_2, .int .i64 x_79.1.locs, .int .i64 x_79.1.base, .slice A_87 x_79.1.answers.length c_88] : List Value) ++ (cs_90 ++ (([] : List Value) ++ (cs_92 ++ ([.bool x_79.1.less, .bool x_79.1.same, .int .u64 x_79.1.held, .int .u64 x_79.1.ctrl, .int .u64 x_79.1.fenced, .int .i64 x_79.1.hold, .int .i64 x_79.1.event, .slice A_94 x_79.1.out.length c_95] : List Value))))).toArray 59 (0, 0))], X_97, [(b_7, .cells #[.slice none 0 0, .int .i64 5] 28 (0, 0))], []] _ rfl) (RdS.pass q_86 hp_115) (RdS.pass q_89 hp_115) q_91 q_93 q_96 (Own.nil _ _ _ _)) ?_
  rintro v_ w_118 ⟨A_122, c_123, X_125, rfl, q_124, af_121⟩
  have hp_119 := Hp.callA af_121 hp_115
  obtain rfl := Option.some.inj H
  exact ⟨_, lv_run rfl (.cell rfl rfl (r_loadA Try.isAgg28 Try.sizeOf28 rfl (cells_box (sz := 2) (hp_119.get (i := 1) (j := 0) rfl rfl) rfl)) .nil) rfl, _, rfl, ⟨A_122, c_123, X_125, rfl, q_124, (hp_119.pick [2] (by decide) rfl).aft⟩⟩
 have H := iff_ h_112 H
 refine k_skip ?_
 refine k_anyF [[0, 1], [0, 1, 2, 3], [0, 1, 2, 3], [0, 1, 2, 3], [0, 1, 2, 3], [0, 1, 2, 3], [0, 1], [0, 1], [0, 1]] [0, 0, 0, 0, 12, 28, 62, 127, 255] mixed hp_83 9 (by kernel_rfl) (fun w_126 hp_127 => ?_)
 refine w_take (m' := 1) (v := .int .i64 x_79.2.1) 0 rfl rfl (by kernel_rfl) (by kernel_rfl) (by kernel_rfl) (by kernel_rfl) (by kernel_rfl) (by kernel_rfl) (by kernel_rfl) (po_then (po_x (po_x (po_bodyD rfl rfl)))) (Wp.of hp_127 [0, 1] rfl) (y_val (fun w_ hW_ => e_move (tm rfl rfl))) ?_
 refine w_take (m' := 5) (v := .slice A_1 a0.length c_2) 2 rfl rfl (by kernel_rfl) (by kernel_rfl) (by kernel_rfl) (by kernel_rfl) (by kernel_rfl) (by kernel_rfl) (by kernel_rfl) (po_then (po_x (po_x (po_bodyD rfl rfl)))) (Wp.of hp_127 [0, 1, 2, 3] rfl) (y_val (fun w_ hW_ => e_move (tm rfl rfl))) ?_
 refine w_take (m' := 13) (v := .int .i64 x_79.2.1) 3 rfl rfl (by kernel_rfl) (by kernel_rfl) (by kernel_rfl) (by kernel_rfl) (by kernel_rfl) (by kernel_rfl) (by kernel_rfl) (po_then (po_x (po_x (po_bodyD rfl rfl)))) (Wp.of hp_127 [0, 1, 2, 3] rfl) (y_val (fun w_ hW_ => e_move (tm rfl rfl))) ?_
 obtain ⟨g_128, H⟩ := grd H
 obtain ⟨a_133, cs_130, pl_131, q_132, rp_129⟩ := rd_idx q_3 g_128
 obtain rfl : cs_130 = [.int .i64 ((gi a0 x_79.2.1).Op), .int .i64 ((gi a0 x_79.2.1).T), .int .i64 ((gi a0 x_79.2.1).A), .int .i64 ((gi a0 x_79.2.1).B), .int .i64 ((gi a0 x_79.2.1).Imm)] := rp_129
 refine w_take (m' := 29) (v := .pointer (some a_133)) 4 rfl rfl (by kernel_rfl) (by kernel_rfl) (by kernel_rfl) (by kernel_rfl) (by kernel_rfl) (by kernel_rfl) (by kernel_rfl) (po_then (po_x (po_x (po_bodyD rfl rfl)))) (Wp.of hp_127 [0, 1, 2, 3] rfl) (y_val (fun w_ hW_ => e_idx (tm rfl rfl) (tm rfl rfl) Try.runUnderlying22 Try.sizeOf44 pl_131 g_128)) ?_
 refine w_take (m' := 61) (v := .agg #[.int .i64 ((gi a0 x_79.2.1).Op), .int .i64 ((gi a0 x_79.2.1).T), .int .i64 ((gi a0 x_79.2.1).A), .int .i64 ((gi a0 x_79.2.1).B), .int .i64 ((gi a0 x_79.2.1).Imm)]) 5 rfl rfl (by kernel_rfl) (by kernel_rfl) (by kernel_rfl) (by kernel_rfl) (by kernel_rfl) (by kernel_rfl) (by kernel_rfl) (po_then (po_x (po_x (po_bodyD rfl rfl)))) (Wp.of hp_127 [0, 1, 2, 3] rfl) (y_val (fun w_ hW_ => e_loadA (tm rfl rfl) Try.isAgg44 Try.sizeOf44 rfl ((hW_.ep q_132)))) ?_
 refine w_take (m' := 63) (v := .pointer (some ⟨b_49, 0, none⟩)) 1 rfl rfl (by kernel_rfl) (by kernel_rfl) (by kernel_rfl) (by kernel_rfl) (by kernel_rfl) (by kernel_rfl) (by kernel_rfl) (po_then (po_x (po_x (po_bodyD rfl rfl)))) (Wp.of hp_127 [0, 1, 2, 3] rfl) (y_val (fun w_ hW_ => e_load1 (tm rfl rfl) Try.isAgg53 (cell_atL (hW_.get (i := 1) (j := 0) rfl rfl) rfl))) ?_
 refine w_one (m' := 127) 6 rfl (by kernel_rfl) (by kernel_rfl) ?_
 have hp_134 := Hp.pick (R' := [[(b_49, .cells (([.slice A_1 x_79.1.code.length c_2, .int .i64 x_79.1.locs, .int .i64 x_79.1.base, .slice A_87 x_79.1.answers.length c_88] : List Value) ++ (cs_90 ++ (([] : List Value) ++ (cs_92 ++ ([.bool x_79.1.less, .bool x_79.1.same, .int .u64 x_79.1.held, .int .u64 x_79.1.ctrl, .int .u64 x_79.1.fenced, .int .i64 x_79.1.hold, .int .i64 x_79.1.event, .slice A_94 x_79.1.out.length c_95] : List Value))))).toArray 59 (0, 0))], X_97, [(b_7, .cells #[.slice none 0 0, .int .i64 0] 28 (0, 0))], [(b_52, .cells #[.pointer (some ⟨b_49, 0, none⟩)] 53 (0, 0))]]) [2, 3, 0, 1] hp_127 (by decide) rfl
 obtain ⟨r_136, hx_135, H⟩ := bindSome H
 rcases r_136 with p_138 | r_137
 ·refine s_pan (.cons (tm rfl rfl) (.cons (tm rfl rfl) .nil)) Try.call20 (thread_thread_step.callsP x_79.1 b_49 A_1 c_2 A_87 c_88 cs_90 cs_92 A_94 c_95 X_97 (⟨(gi a0 x_79.2.1).Op, (gi a0 x_79.2.1).T, (gi a0 x_79.2.1).A, (gi a0 x_79.2.1).B, (gi a0 x_79.2.1).Imm⟩ : api_Inst) p_138 _ _ (Hp.offI hp_134 [[(b_49, .cells (([.slice A_1 x_79.1.code.length c_2, .int .i64 x_79.1.locs, .int .i64 x_79.1.base, .slice A_87 x_79.1.answers.length c_88] : List Value) ++ (cs_90 ++ (([] : List Value) ++ (cs_92 ++ ([.bool x_79.1.less, .bool x_79.1.same, .int .u64 x_79.1.held, .int .u64 x_79.1.ctrl, .int .u64 x_79.1.fenced, .int .i64 x_79.1.hold, .int .i64 x_79.1.event, .slice A_94 x_79.1.out.length c_95] : List Value))))).toArray 59 (0, 0))], X_97] _ rfl) (Hp.have1 hp_134 [[(b_49, .cells (([.slice A_1 x_79.1.code.length c_2, .int .i64 x_79.1.locs, .int .i64 x_79.1.base, .slice A_87 x_79.1.answers.length c_88] : List Value) ++ (cs_90 ++ (([] : List Value) ++ (cs_92 ++ ([.bool x_79.1.less, .bool x_79.1.same, .int .u64 x_79.1.held, .int .u64 x_79.1.ctrl, .int .u64 x_79.1.fenced, .int .i64 x_79.1.hold, .int .i64 x_79.1.event, .slice A_94 x_79.1.out.length c_95] : List Value))))).toArray 59 (0, 0))], X_97] _ rfl) (RdS.now q_86 hp_134) (RdS.now q_89 hp_134) q_91 q_93 q_96 hx_135) ?_
  rintro c_ w_158 ⟨A_163, c_164, cs_166, cs_168, A_170, c_171, X_173, rfl, q_162, q_165, q_167, q_169, q_172, af_161⟩
  have hp_159 := Hp.callA af_161 hp_134
  have q_174 := q_162.up (Hp.down hp_134)
  have q_175 := q_165.up (Hp.down hp_134)
  refine q_then ?_
  refine q_panic ?_
  refine q_panic ?_
  obtain ⟨v_, H', hv_⟩ := mapSome H
  have hv_ := hz_80 _ hv_
  subst hv_
  have H := H'
  clear H'
  obtain ⟨v_, H', hv_⟩ := mapSome H
  subst hv_
  have H := H'.trans (show some v_ = _ from G_77)
  have hp_176 := Hp.pick (R' := [[(b_52, .cells #[.pointer (some ⟨b_49, 0, none⟩)] 53 (0, 0))], [(b_49, .cells (([.slice A_1 p_138.2.code.length c_2, .int .i64 p_138.2.locs, .int .i64 p_138.2.base, .slice A_163 p_138.2.answers.length c_164] : List Value) ++ (cs_166 ++ (([] : List Value) ++ (cs_168 ++ ([.bool p_138.2.less, .bool p_138.2.same, .int .u64 p_138.2.held, .int .u64 p_138.2.ctrl, .int .u64 p_138.2.fenced, .int .i64 p_138.2.hold, .int .i64 p_138.2.event, .slice A_170 p_138.2.out.length c_171] : List Value))))).toArray 59 (0, 0))], X_173, [(b_7, .cells #[.slice none 0 0, .int .i64 0] 28 (0, 0))], []]) [3, 0, 1, 2, 4] hp_159 (by decide) rfl
  refine lv_pan Try.call19 (thread_Do_1_v1.calls p_138.2 b_52 b_49 A_1 c_2 A_163 c_164 cs_166 cs_168 A_170 c_171 X_173 (⟨([] : List api_Event), 0⟩ : api_Run) b_7 none 0 [] p_138.1 _ _ (Hp.offCov hp_176 [[(b_52, .cells #[.pointer (some ⟨b_49, 0, none⟩)] 53 (0, 0))], [(b_49, .cells (([.slice A_1 p_138.2.code.length c_2, .int .i64 p_138.2.locs, .int .i64 p_138.2.base, .slice A_163 p_138.2.answers.length c_164] : List Value) ++ (cs_166 ++ (([] : List Value) ++ (cs_168 ++ ([.bool p_138.2.less, .bool p_138.2.same, .int .u64 p_138.2.held, .int .u64 p_138.2.ctrl, .int .u64 p_138.2.fenced, .int .i64 p_138.2.hold, .int .i64 p_138.2.event, .slice A_170 p_138.2.out.length c_171] : List Value))))).toArray 59 (0, 0))], X_173, [(b_7, .cells #[.slice none 0 0, .int .i64 0] 28 (0, 0))], []] [] rfl) (Hp.have1 hp_176 [[(b_52, .cells #[.pointer (some ⟨b_49, 0, none⟩)] 53 (0, 0))], [(b_49, .cells (([.slice A_1 p_138.2.code.length c_2, .int .i64 p_138.2.locs, .int .i64 p_138.2.base, .slice A_163 p_138.2.answers.length c_164] : List Value) ++ (cs_166 ++ (([] : List Value) ++ (cs_168 ++ ([.bool p_138.2.less, .bool p_138.2.same, .int .u64 p_138.2.held, .int .u64 p_138.2.ctrl, .int .u64 p_138.2.fenced, .int .i64 p_138.2.hold, .int .i64 p_138.2.event, .slice A_170 p_138.2.out.length c_171] : List Value))))).toArray 59 (0, 0))], X_173, [(b_7, .cells #[.slice none 0 0, .int .i64 0] 28 (0, 0))], []] _ rfl) (RdS.pass q_174 hp_176) (RdS.pass q_175 hp_176) q_167 q_169 q_172 (Own.nil _ _ _ _)) ?_
  rintro v_ w_179 ⟨A_183, c_184, X_186, rfl, q_185, af_182⟩
  have hp_180 := Hp.callA af_182 hp_176
  obtain rfl := Option.some.inj H
  exact ⟨_, lv_run rfl (.cell rfl rfl (r_loadA Try.isAgg28 Try.sizeOf28 rfl (cells_box (sz := 2) (hp_180.get (i := 1) (j := 0) rfl rfl) rfl)) .nil) rfl, _, rfl, ⟨A_183, c_184, X_186, rfl, q_185, (hp_180.pick [2] (by decide) rfl).aft⟩⟩
 refine s_call (.cons (tm rfl rfl) (.cons (tm rfl rfl) .nil)) Try.call20 (thread_thread_step.calls x_79.1 b_49 A_1 c_2 A_87 c_88 cs_90 cs_92 A_94 c_95 X_97 (⟨(gi a0 x_79.2.1).Op, (gi a0 x_79.2.1).T, (gi a0 x_79.2.1).A, (gi a0 x_79.2.1).B, (gi a0 x_79.2.1).Imm⟩ : api_Inst) r_137 _ _ (Hp.offI hp_134 [[(b_49, .cells (([.slice A_1 x_79.1.code.length c_2, .int .i64 x_79.1.locs, .int .i64 x_79.1.base, .slice A_87 x_79.1.answers.length c_88] : List Value) ++ (cs_90 ++ (([] : List Value) ++ (cs_92 ++ ([.bool x_79.1.less, .bool x_79.1.same, .int .u64 x_79.1.held, .int .u64 x_79.1.ctrl, .int .u64 x_79.1.fenced, .int .i64 x_79.1.hold, .int .i64 x_79.1.event, .slice A_94 x_79.1.out.length c_95] : List Value))))).toArray 59 (0, 0))], X_97] _ rfl) (Hp.have1 hp_134 [[(b_49, .cells (([.slice A_1 x_79.1.code.length c_2, .int .i64 x_79.1.locs, .int .i64 x_79.1.base, .slice A_87 x_79.1.answers.length c_88] : List Value) ++ (cs_90 ++ (([] : List Value) ++ (cs_92 ++ ([.bool x_79.1.less, .bool x_79.1.same, .int .u64 x_79.1.held, .int .u64 x_79.1.ctrl, .int .u64 x_79.1.fenced, .int .i64 x_79.1.hold, .int .i64 x_79.1.event, .slice A_94 x_79.1.out.length c_95] : List Value))))).toArray 59 (0, 0))], X_97] _ rfl) (RdS.now q_86 hp_134) (RdS.now q_89 hp_134) q_91 q_93 q_96 hx_135) rfl ?_
 rintro v_ w_140 ⟨A_145, c_146, cs_148, cs_150, A_152, c_153, X_155, rfl, q_144, q_147, q_149, q_151, q_154, af_143⟩
 have hp_141 := Hp.callA af_143 hp_134
 have q_156 := q_144.up (Hp.down hp_134)
 have q_157 := q_147.up (Hp.down hp_134)
 refine k_nil ?_
 refine ⟨(Wp.of hp_141 [2, 3] rfl), ?_⟩
 refine w_take (m' := 255) (v := .int .i64 (wrap64 (x_79.2.1 + r_137.1))) 7 rfl rfl (by kernel_rfl) (by kernel_rfl) (by kernel_rfl) (by kernel_rfl) (by kernel_rfl) (by kernel_rfl) (by kernel_rfl) (po_then (po_x (po_x (po_bodyD rfl rfl)))) (Wp.of hp_141 [2, 3] rfl) (y_val (fun w_ hW_ => e_bin (tm rfl rfl) (tm rfl rfl) (r_add (wrap_i64 _)))) ?_
 refine w_take (m' := 511) (v := .int .i64 (wrap64 (x_79.2.1 + r_137.1))) 8 rfl rfl (by kernel_rfl) (by kernel_rfl) (by kernel_rfl) (by kernel_rfl) (by kernel_rfl) (by kernel_rfl) (by kernel_rfl) (po_then (po_x (po_x (po_bodyD rfl rfl)))) (Wp.of hp_141 [2, 3] rfl) (y_val (fun w_ hW_ => e_assign (tm rfl rfl))) ?_
 refine w_done (by kernel_rfl) ?_
 refine kr tb hp_141 [] [(15, .int .i64 (wrap64 (x_79.2.2 + 1)))] (by kernel_rfl) fun σ => ?_
 obtain rfl := Option.some.inj H
 exact ⟨_, rfl, ⟨_, A_145, c_146, cs_148, cs_150, A_152, c_153, X_155, seenF ⟨rfl, rfl, rfl, rfl, rfl, rfl, trivial⟩, hp_141.pick [2, 3, 0, 1] (by decide) rfl, q_156, q_157, q_149, q_151, q_154⟩⟩

/-! ### selvage/selvageref16.Same: function 10 -/
def selvageref16_Same.l0 (a0 : api_Run) (a1 : api_Run) (x_17 : Int) : Option (Int ⊕ (Unit ⊕ Bool)) :=
 if (decide (x_17 < (a0.Events.length : Int))) = true then (if 0 ≤ x_17 ∧ x_17 < (a0.Events.length : Int) then (if 0 ≤ x_17 ∧ x_17 < (a1.Events.length : Int) then (if (!((((gi a0.Events x_17).Kind) == ((gi a1.Events x_17).Kind)) && ((((gi a0.Events x_17).Loc) == ((gi a1.Events x_17).Loc)) && ((((gi a0.Events x_17).Val) == ((gi a1.Events x_17).Val)) && ((((gi a0.Events x_17).Pair) == ((gi a1.Events x_17).Pair)) && ((((gi a0.Events x_17).Addr) == ((gi a1.Events x_17).Addr)) && ((((gi a0.Events x_17).Data) == ((gi a1.Events x_17).Data)) && ((((gi a0.Events x_17).Ctrl) == ((gi a1.Events x_17).Ctrl)) && ((((gi a0.Events x_17).Fenced) == ((gi a1.Events x_17).Fenced)) && true))))))))) = true then (((some false).map Sum.inr).map Sum.inr) else (some (Sum.inl (wrap64 (x_17 + 1))))) else none) else none) else ((some (Sum.inl ())).map Sum.inr)
def selvageref16_Same.m (a0 : api_Run) (a1 : api_Run) : Option Bool :=
 if ((!decide (a0.Status = a1.Status)) || (!decide ((a0.Events.length : Int) = (a1.Events.length : Int)))) = true then (some false) else ((loop (selvageref16_Same.l0 a0 a1) 0 : Option (Unit ⊕ Bool)).bind fun o_14 => match o_14 with | .inl s_16 => (some true) | .inr r_44 => some r_44)
set_option maxHeartbeats 4000000 in
set_option maxRecDepth 100000 in
theorem selvageref16_Same.calls (a0 : api_Run) (A_1 : Option Addr) (c_2 : Nat) (a1 : api_Run) (A_4 : Option Addr) (c_5 : Nat) (r : Bool) (w : World) (F : Nat → Prop) (hF : ∀ k, F k → Off w [] k) (q_3 : RdS api_Event_E F w A_1 c_2 a0.Events) (q_6 : RdS api_Event_E F w A_4 c_5 a1.Events) (H : selvageref16_Same.m a0 a1 = some r) :
 Ret Try.prog 10 [.agg #[.slice A_1 a0.Events.length c_2, .int .i64 a0.Status], .agg #[.slice A_4 a1.Events.length c_5, .int .i64 a1.Status]] w fun v w' => v = .bool r ∧ Aft w w' [] [] := by
 unfold selvageref16_Same.m at H
 have hp0 := Hp.startR (R := []) (Have.nil w) hF
 have ep0 := Ep.refl F [] w
 refine enter (L := [(0, .agg #[.slice A_1 a0.Events.length c_2, .int .i64 a0.Status]), (1, .agg #[.slice A_4 a1.Events.length c_5, .int .i64 a1.Status])]) Try.func10 rfl Try.ntmps10 rfl rfl ?_
 refine k_seq ?_
 refine k_region ?_
 refine s_box (l := [.slice A_1 a0.Events.length c_2, .int .i64 a0.Status]) hp0 (tm rfl rfl) rfl rfl (fun b_7 w_8 hp_9 => ?_)
 refine s_box (l := [.slice A_4 a1.Events.length c_5, .int .i64 a1.Status]) hp_9 (tm rfl rfl) rfl rfl (fun b_10 w_11 hp_12 => ?_)
 refine sv (v := .bool false) rfl rfl rfl (e_assign rfl) ?_
 refine k_nil ?_
 refine k_seq ?_
 refine kq tb hp_12 [(2, 0, 0), (3, 1, 0)] [(19, .bool ((!decide (a0.Status = a1.Status)) || (!decide ((a0.Events.length : Int) = (a1.Events.length : Int)))))] (by kernel_rfl) fun σ => ?_
 refine k_if (tm rfl rfl) (fun h_13 => ?_) (fun h_13 => ?_)
 ·have H := ift h_13 H
  refine kq tb hp_12 [] [(4, .bool false)] (by kernel_rfl) fun σ => ?_
  refine k_ret ?_
  obtain rfl := Option.some.inj H
  exact k_end rfl (.tmp rfl rfl .nil) rfl ⟨rfl, (hp_12.pick [] (by decide) rfl).aft⟩
 have H := iff_ h_13 H
 refine k_skip ?_
 refine k_seq ?_
 refine kq tb hp_12 [] [(5, .int .i64 0)] (by kernel_rfl) fun σ => ?_
 obtain ⟨o_14, H, G_15⟩ := bindSome H
 refine k_cut (fun a w' => ∃ (s_16 : Unit) (σ_45 : Nat → Value), o_14 = Sum.inl s_16 ∧ a = st 38 [] σ_45 [] ∧ Hp (On []) F w w w' []) ?_ ?_
 ·as_aux_lemma =>
  refine k_block ?_
  refine k_lp (fun (x_17 : Int) a w' => ∃ (σ_40 : Nat → Value), a = st 38 [(2, .pointer (some ⟨b_7, 0, none⟩)), (3, .pointer (some ⟨b_10, 0, none⟩)), (5, .int .i64 x_17)] σ_40 [] ∧ Hp (On []) F w w w' [[(b_7, .cells #[.slice A_1 a0.Events.length c_2, .int .i64 a0.Status] 28 (0, 0))], [(b_10, .cells #[.slice A_4 a1.Events.length c_5, .int .i64 a1.Status] 28 (0, 0))]]) H ⟨_, seenF ⟨rfl, rfl, rfl, trivial⟩, hp_12⟩ ?_
  clear H
  rintro x_17 a w' z_ ⟨σ_20, rfl, hp_21⟩ H hz_18
  unfold selvageref16_Same.l0 at H
  refine k_seq ?_
  refine kq tb hp_21 [(2, 0, 0)] [(24, .bool (decide (x_17 < (a0.Events.length : Int))))] (by kernel_rfl) fun σ => ?_
  refine k_if (tm rfl rfl) (fun h_24 => ?_) (fun h_24 => ?_)
  ·as_aux_lemma =>
   have H := ift h_24 H
   refine k_skip ?_
   refine k_seq ?_
   refine k_block ?_
   refine k_seq ?_
   refine k_anyF [[0, 1], [0, 1], [0, 1], [0, 1], [0, 1], [0, 1], [0, 1], [0, 1], [0, 1], [0, 1], [0, 1]] [0, 1, 0, 7, 15, 0, 32, 0, 224, 480, 1023] mixed hp_21 11 (by kernel_rfl) (fun w_25 hp_26 => ?_)
   obtain ⟨g_27, H⟩ := grd H
   obtain ⟨a_32, cs_29, pl_30, q_31, rp_28⟩ := rd_idx q_3 g_27
   obtain rfl : cs_29 = [.int .i64 ((gi a0.Events x_17).Kind), .int .i64 ((gi a0.Events x_17).Loc), .int .i64 ((gi a0.Events x_17).Val), .int .i64 ((gi a0.Events x_17).Pair), .int .u64 ((gi a0.Events x_17).Addr), .int .u64 ((gi a0.Events x_17).Data), .int .u64 ((gi a0.Events x_17).Ctrl), .int .u64 ((gi a0.Events x_17).Fenced)] := rp_28
   obtain ⟨g_33, H⟩ := grd H
   obtain ⟨a_38, cs_35, pl_36, q_37, rp_34⟩ := rd_idx q_6 g_33
   obtain rfl : cs_35 = [.int .i64 ((gi a1.Events x_17).Kind), .int .i64 ((gi a1.Events x_17).Loc), .int .i64 ((gi a1.Events x_17).Val), .int .i64 ((gi a1.Events x_17).Pair), .int .u64 ((gi a1.Events x_17).Addr), .int .u64 ((gi a1.Events x_17).Data), .int .u64 ((gi a1.Events x_17).Ctrl), .int .u64 ((gi a1.Events x_17).Fenced)] := rp_34
   refine w_takes (f := 1) tb [0, 1] (Wp.of hp_26 [0, 1] rfl) [⟨_, _, [], fun w h => h.ep q_31⟩, ⟨_, _, [], fun w h => h.ep q_37⟩] [.s 30 2 _ _ c_2 _ 8 _ pl_30 g_27, .s 35 3 _ _ c_5 _ 8 _ pl_36 g_33] [] [(2, 0, 0), (3, 1, 0)] [] [0, 2, 5, 7, 1, 3, 4, 6, 8, 9] 1023 [(31, .agg #[.int .i64 ((gi a0.Events x_17).Kind), .int .i64 ((gi a0.Events x_17).Loc), .int .i64 ((gi a0.Events x_17).Val), .int .i64 ((gi a0.Events x_17).Pair), .int .u64 ((gi a0.Events x_17).Addr), .int .u64 ((gi a0.Events x_17).Data), .int .u64 ((gi a0.Events x_17).Ctrl), .int .u64 ((gi a0.Events x_17).Fenced)]), (36, .agg #[.int .i64 ((gi a1.Events x_17).Kind), .int .i64 ((gi a1.Events x_17).Loc), .int .i64 ((gi a1.Events x_17).Val), .int .i64 ((gi a1.Events x_17).Pair), .int .u64 ((gi a1.Events x_17).Addr), .int .u64 ((gi a1.Events x_17).Data), .int .u64 ((gi a1.Events x_17).Ctrl), .int .u64 ((gi a1.Events x_17).Fenced)])] (fun _ => (po_then (po_x (po_x po_body)))) rfl rfl (by kernel_rfl) fun σ => ?_
   refine w_take (m' := 2047) (v := .bool (!((((gi a0.Events x_17).Kind) == ((gi a1.Events x_17).Kind)) && ((((gi a0.Events x_17).Loc) == ((gi a1.Events x_17).Loc)) && ((((gi a0.Events x_17).Val) == ((gi a1.Events x_17).Val)) && ((((gi a0.Events x_17).Pair) == ((gi a1.Events x_17).Pair)) && ((((gi a0.Events x_17).Addr) == ((gi a1.Events x_17).Addr)) && ((((gi a0.Events x_17).Data) == ((gi a1.Events x_17).Data)) && ((((gi a0.Events x_17).Ctrl) == ((gi a1.Events x_17).Ctrl)) && ((((gi a0.Events x_17).Fenced) == ((gi a1.Events x_17).Fenced)) && true)))))))))) 10 rfl rfl (by kernel_rfl) (by kernel_rfl) (by kernel_rfl) (by kernel_rfl) (by kernel_rfl) (by kernel_rfl) (by kernel_rfl) (po_then (po_x (po_x po_body))) (Wp.of hp_26 [0, 1] rfl) (y_val (fun w_ hW_ => e_bin (tm rfl rfl) (tm rfl rfl) (r_nes Try.underlying33 (by kernel_rfl) (by kernel_rfl) (q_cons rfl rfl rfl (q_int Try.underlying3) (q_cons rfl rfl rfl (q_int Try.underlying3) (q_cons rfl rfl rfl (q_int Try.underlying2) (q_cons rfl rfl rfl (q_int Try.underlying3) (q_cons rfl rfl rfl (q_int Try.underlying31) (q_cons rfl rfl rfl (q_int Try.underlying31) (q_cons rfl rfl rfl (q_int Try.underlying31) (q_cons rfl rfl rfl (q_int Try.underlying31) q_nil))))))))))) ?_
   refine w_done (by kernel_rfl) ?_
   refine k_if (tm rfl rfl) (fun h_39 => ?_) (fun h_39 => ?_)
   ·have H := ift h_39 H
    refine kq tb hp_26 [] [(4, .bool false)] (by kernel_rfl) fun σ => ?_
    refine k_ret ?_
    refine q_ret ?_
    refine q_ret ?_
    obtain ⟨v_, H', hv_⟩ := mapSome H
    have hv_ := hz_18 _ hv_
    subst hv_
    have H := H'
    clear H'
    obtain ⟨v_, H', hv_⟩ := mapSome H
    subst hv_
    have H := H'.trans (show some v_ = _ from G_15)
    obtain rfl := Option.some.inj H
    exact k_end rfl (.tmp rfl rfl .nil) rfl ⟨rfl, (hp_26.pick [] (by decide) rfl).aft⟩
   have H := iff_ h_39 H
   refine k_skip ?_
   refine kr tb hp_26 [] [(5, .int .i64 (wrap64 (x_17 + 1)))] (by kernel_rfl) fun σ => ?_
   obtain rfl := Option.some.inj H
   exact ⟨_, rfl, ⟨_, seenF ⟨rfl, rfl, rfl, trivial⟩, hp_26⟩⟩
  have H := iff_ h_24 H
  refine k_exit ?_
  refine q_here ?_
  obtain ⟨v_, H', hv_⟩ := mapSome H
  have hv_ := hz_18 _ hv_
  subst hv_
  have H := H'
  clear H'
  obtain rfl := Option.some.inj H
  exact ⟨(), _, rfl, seenF trivial, hp_21.pick [] (by decide) rfl⟩
 clear H
 rintro a w' ⟨s_16, σ_40, rfl, rfl, hp_41⟩
 have H := G_15
 refine kq tb hp_41 [] [(4, .bool true)] (by kernel_rfl) fun σ => ?_
 refine k_ret ?_
 obtain rfl := Option.some.inj H
 exact k_end rfl (.tmp rfl rfl .nil) rfl ⟨rfl, (hp_41).aft⟩

/-! ### selvage/selvagelaw16.awake: function 9 -/
def selvagelaw16_awake.m : Option Bool :=
 (thread_Do.m ([(⟨10, 3, 2, 0, 0⟩ : api_Inst), (⟨16, 0, 3, 3, 0⟩ : api_Inst), (⟨18, 3, 0, 0, 4⟩ : api_Inst), (⟨11, 3, 2, 0, 8⟩ : api_Inst), (⟨23, 0, 0, 0, 0⟩ : api_Inst)] : List api_Inst) 2 0 ([5] : List Int)).bind fun r_15 => ((selvageref16_Same.m r_15 (⟨([(⟨1, 0, 5, 0, 0, 0, 0, 0⟩ : api_Event), (⟨2, 1, 5, 0, 0, 1, 1, 0⟩ : api_Event)] : List api_Event), 1⟩ : api_Run)).bind fun r_37 => (some r_37))
set_option maxHeartbeats 4000000 in
set_option maxRecDepth 100000 in
theorem selvagelaw16_awake.calls (r : Bool) (w : World) (H : selvagelaw16_awake.m = some r) :
 Ret Try.prog 9 [] w fun v w' => v = .bool r ∧ Aft w w' [] [] := by
 unfold selvagelaw16_awake.m at H
 have hp0 := Hp.startR (F := no) (R := []) (Have.nil w) (fun _ h => h.elim)
 have ep0 := Ep.refl no [] w
 refine enter (L := []) Try.func9 rfl Try.ntmps9 rfl rfl ?_
 refine kq tb hp0 [] [] (by kernel_rfl) fun σ => ?_
 refine k_seq ?_
 refine k_region ?_
 refine sr tb hp0 [] 5 [(3, .agg #[.int .i64 10, .int .i64 3, .int .i64 2, .int .i64 0, .int .i64 0]), (4, .agg #[.int .i64 16, .int .i64 0, .int .i64 3, .int .i64 3, .int .i64 0]), (5, .agg #[.int .i64 18, .int .i64 3, .int .i64 0, .int .i64 0, .int .i64 4]), (6, .agg #[.int .i64 11, .int .i64 3, .int .i64 2, .int .i64 0, .int .i64 8]), (7, .agg #[.int .i64 23, .int .i64 0, .int .i64 0, .int .i64 0, .int .i64 0])] (by kernel_rfl) fun σ => ?_
 refine s_buildC (zv := .agg #[.int .i64 0, .int .i64 0, .int .i64 0, .int .i64 0, .int .i64 0]) (E := api_Inst_E) (F := no) (wf := wz) (xs := ([(⟨10, 3, 2, 0, 0⟩ : api_Inst), (⟨16, 0, 3, 3, 0⟩ : api_Inst), (⟨18, 3, 0, 0, 4⟩ : api_Inst), (⟨11, 3, 2, 0, 8⟩ : api_Inst), (⟨23, 0, 0, 0, 0⟩ : api_Inst)] : List api_Inst)) (cs := [.int .i64 10, .int .i64 3, .int .i64 2, .int .i64 0, .int .i64 0, .int .i64 16, .int .i64 0, .int .i64 3, .int .i64 3, .int .i64 0, .int .i64 18, .int .i64 3, .int .i64 0, .int .i64 0, .int .i64 4, .int .i64 11, .int .i64 3, .int .i64 2, .int .i64 0, .int .i64 8, .int .i64 23, .int .i64 0, .int .i64 0, .int .i64 0, .int .i64 0]) (vs := [(0, .agg #[.int .i64 10, .int .i64 3, .int .i64 2, .int .i64 0, .int .i64 0]), (1, .agg #[.int .i64 16, .int .i64 0, .int .i64 3, .int .i64 3, .int .i64 0]), (2, .agg #[.int .i64 18, .int .i64 3, .int .i64 0, .int .i64 0, .int .i64 4]), (3, .agg #[.int .i64 11, .int .i64 3, .int .i64 2, .int .i64 0, .int .i64 8]), (4, .agg #[.int .i64 23, .int .i64 0, .int .i64 0, .int .i64 0, .int .i64 0])]) hp0 (.cons (tm rfl rfl) (.cons (tm rfl rfl) (.cons (tm rfl rfl) (.cons (tm rfl rfl) (.cons (tm rfl rfl) .nil))))) Try.runUnderlying22 Try.sizeOf44 (by intro w_; kernel_rfl) rfl rfl rfl (Reps.cat.2 rfl) rfl rfl rfl rfl (fun A_1 c_2 w_3 X_4 hp_5 O_6 => ?_)
 refine sv (v := .slice A_1 ([(⟨10, 3, 2, 0, 0⟩ : api_Inst), (⟨16, 0, 3, 3, 0⟩ : api_Inst), (⟨18, 3, 0, 0, 4⟩ : api_Inst), (⟨11, 3, 2, 0, 8⟩ : api_Inst), (⟨23, 0, 0, 0, 0⟩ : api_Inst)] : List api_Inst).length c_2) rfl rfl rfl (e_assign (tm rfl rfl)) ?_
 refine k_nil ?_
 refine k_seq ?_
 refine k_region ?_
 refine sv (v := .slice A_1 ([(⟨10, 3, 2, 0, 0⟩ : api_Inst), (⟨16, 0, 3, 3, 0⟩ : api_Inst), (⟨18, 3, 0, 0, 4⟩ : api_Inst), (⟨11, 3, 2, 0, 8⟩ : api_Inst), (⟨23, 0, 0, 0, 0⟩ : api_Inst)] : List api_Inst).length c_2) rfl rfl rfl (e_move (tm rfl rfl)) ?_
 refine s_buildC (zv := .int .i64 0) (E := (intE .i64)) (F := no) (wf := wz) (xs := ([5] : List Int)) (cs := [.int .i64 5]) (vs := [(0, .int .i64 5)]) hp_5 (.cons rfl .nil) Try.runUnderlying23 Try.sizeOf2 (by intro w_; kernel_rfl) rfl rfl rfl (Reps.cat.2 rfl) rfl rfl rfl rfl (fun A_7 c_8 w_9 X_10 hp_11 O_12 => ?_)
 obtain ⟨r_15, hx_14, H⟩ := bindSome H
 refine s_call (.cons (tm rfl rfl) (.cons rfl (.cons rfl (.cons (tm rfl rfl) .nil)))) Try.call11 (thread_Do.calls ([(⟨10, 3, 2, 0, 0⟩ : api_Inst), (⟨16, 0, 3, 3, 0⟩ : api_Inst), (⟨18, 3, 0, 0, 4⟩ : api_Inst), (⟨11, 3, 2, 0, 8⟩ : api_Inst), (⟨23, 0, 0, 0, 0⟩ : api_Inst)] : List api_Inst) A_1 c_2 2 0 ([5] : List Int) A_7 c_8 r_15 _ _ (Hp.offCov hp_11 [] [X_4, X_10] rfl) (Own.pass (Own.any O_6) hp_11 (subRest [] [X_4, X_10] rfl) (i := 0) rfl) (Own.pass (Own.any O_12) hp_11 (subRest [] [X_4, X_10] rfl) (i := 1) rfl) hx_14) rfl ?_
 rintro v_ w_16 ⟨A_20, c_21, X_23, rfl, q_22, af_19⟩
 have hp_17 := Hp.callA af_19 hp_11
 refine s_alloc (zv := .agg #[.slice none 0 0, .int .i64 0]) (l := [.slice none 0 0, .int .i64 0]) hp_17 (by intro w_; kernel_rfl) rfl rfl (fun b_24 w_25 hp_26 => ?_)
 refine s_store (i := 3) (j := 0) (vs := [.slice A_20 r_15.Events.length c_21, .int .i64 r_15.Status]) (l' := [.slice A_20 r_15.Events.length c_21, .int .i64 r_15.Status]) hp_26 (tm rfl rfl) (tm rfl rfl) rfl Try.sizeOf28 rfl rfl rfl rfl rfl rfl (fun w_27 hp_28 => ?_)
 refine k_nil ?_
 refine k_seq ?_
 refine k_region ?_
 refine sr tb hp_28 [(2, 3, 0)] 3 [(12, .agg #[.slice A_20 r_15.Events.length c_21, .int .i64 r_15.Status]), (13, .agg #[.int .i64 1, .int .i64 0, .int .i64 5, .int .i64 0, .int .u64 0, .int .u64 0, .int .u64 0, .int .u64 0]), (14, .agg #[.int .i64 2, .int .i64 1, .int .i64 5, .int .i64 0, .int .u64 0, .int .u64 1, .int .u64 1, .int .u64 0])] (by kernel_rfl) fun σ => ?_
 refine s_buildC (zv := .agg #[.int .i64 0, .int .i64 0, .int .i64 0, .int .i64 0, .int .u64 0, .int .u64 0, .int .u64 0, .int .u64 0]) (E := api_Event_E) (F := no) (wf := wz) (xs := ([(⟨1, 0, 5, 0, 0, 0, 0, 0⟩ : api_Event), (⟨2, 1, 5, 0, 0, 1, 1, 0⟩ : api_Event)] : List api_Event)) (cs := [.int .i64 1, .int .i64 0, .int .i64 5, .int .i64 0, .int .u64 0, .int .u64 0, .int .u64 0, .int .u64 0, .int .i64 2, .int .i64 1, .int .i64 5, .int .i64 0, .int .u64 0, .int .u64 1, .int .u64 1, .int .u64 0]) (vs := [(0, .agg #[.int .i64 1, .int .i64 0, .int .i64 5, .int .i64 0, .int .u64 0, .int .u64 0, .int .u64 0, .int .u64 0]), (1, .agg #[.int .i64 2, .int .i64 1, .int .i64 5, .int .i64 0, .int .u64 0, .int .u64 1, .int .u64 1, .int .u64 0])]) hp_28 (.cons (tm rfl rfl) (.cons (tm rfl rfl) .nil)) Try.runUnderlying26 Try.sizeOf33 (by intro w_; kernel_rfl) rfl rfl rfl (Reps.cat.2 rfl) rfl rfl rfl rfl (fun A_29 c_30 w_31 X_32 hp_33 O_34 => ?_)
 refine sv (v := .agg #[.slice A_29 ([(⟨1, 0, 5, 0, 0, 0, 0, 0⟩ : api_Event), (⟨2, 1, 5, 0, 0, 1, 1, 0⟩ : api_Event)] : List api_Event).length c_30, .int .i64 1]) rfl rfl rfl (e_build (vs := [(0, .slice A_29 ([(⟨1, 0, 5, 0, 0, 0, 0, 0⟩ : api_Event), (⟨2, 1, 5, 0, 0, 1, 1, 0⟩ : api_Event)] : List api_Event).length c_30), (1, .int .i64 1)]) (cs := [.slice A_29 ([(⟨1, 0, 5, 0, 0, 0, 0, 0⟩ : api_Event), (⟨2, 1, 5, 0, 0, 1, 1, 0⟩ : api_Event)] : List api_Event).length c_30, .int .i64 1]) (.cons (tm rfl rfl) (.cons rfl .nil)) (by kernel_rfl)) ?_
 obtain ⟨r_37, hx_36, H⟩ := bindSome H
 refine s_call (.cons (tm rfl rfl) (.cons (tm rfl rfl) .nil)) Try.call10 (selvageref16_Same.calls r_15 A_20 c_21 (⟨([(⟨1, 0, 5, 0, 0, 0, 0, 0⟩ : api_Event), (⟨2, 1, 5, 0, 0, 1, 1, 0⟩ : api_Event)] : List api_Event), 1⟩ : api_Run) A_29 c_30 r_37 _ _ (Hp.offCov hp_33 [] [X_23, X_4, X_10, [(b_24, .cells #[.slice A_20 r_15.Events.length c_21, .int .i64 r_15.Status] 28 (0, 0))], X_32] rfl) (Own.pass (Own.any q_22) hp_33 (subRest [] [X_23, X_4, X_10, [(b_24, .cells #[.slice A_20 r_15.Events.length c_21, .int .i64 r_15.Status] 28 (0, 0))], X_32] rfl) (i := 0) rfl) (Own.pass (Own.any O_34) hp_33 (subRest [] [X_23, X_4, X_10, [(b_24, .cells #[.slice A_20 r_15.Events.length c_21, .int .i64 r_15.Status] 28 (0, 0))], X_32] rfl) (i := 4) rfl) hx_36) rfl ?_
 rintro v_ w_38 ⟨rfl, af_41⟩
 have hp_39 := Hp.callA af_41 hp_33
 refine sv (v := .bool r_37) rfl rfl rfl (e_assign (tm rfl rfl)) ?_
 refine k_nil ?_
 refine k_ret ?_
 obtain rfl := Option.some.inj H
 exact k_end rfl (.tmp rfl rfl .nil) rfl ⟨rfl, (hp_39.pick [] (by decide) rfl).aft⟩

end Go.Proofs.Ytcnchjlomcafeaa.W

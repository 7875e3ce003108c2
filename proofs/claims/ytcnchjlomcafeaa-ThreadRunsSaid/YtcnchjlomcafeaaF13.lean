/- Functions of the program as plain Lean functions, and that the calls do what they say: written by w2.py. -/
import Derived.Test.YtcnchjlomcafeaaRun
import Derived.Test.YtcnchjlomcafeaaTy
set_option linter.unusedVariables false
set_option linter.unusedSimpArgs false
set_option linter.unusedSectionVars false
namespace Go.Proofs.Ytcnchjlomcafeaa.W
open Go Go.RowKit Go.Proofs.Ytcnchjlomcafeaa.B
attribute [local irreducible] Go.wpList Go.Code.wp Go.Region.wanted Go.yielded
/-! ### (*selvage/thread.thread).branch: function 39 -/
def thread_thread_branch.m (a0 : thread_thread) (a1 : Int) : Bool × thread_thread :=
  if (decide (a1 = 0)) = true then ((a0.less, { a0 with ctrl := bits .or .u64 a0.ctrl a0.held })) else (if (decide (a1 = 1)) = true then (((!a0.less), { a0 with ctrl := bits .or .u64 a0.ctrl a0.held })) else (if (decide (a1 = 2)) = true then ((a0.same, { a0 with ctrl := bits .or .u64 a0.ctrl a0.held })) else (((!a0.same), { a0 with ctrl := bits .or .u64 a0.ctrl a0.held }))))
set_option maxHeartbeats 4000000 in
set_option maxRecDepth 100000 in
theorem thread_thread_branch.calls (a0 : thread_thread) (b_1 : Nat) (A_2 : Option Addr) (c_3 : Nat) (A_5 : Option Addr) (c_6 : Nat) (cs_8 : List Value) (cs_10 : List Value) (A_12 : Option Addr) (c_13 : Nat) (X_15 : Rsc) (a1 : Int) (w : World) (F : Nat → Prop) (hF : ∀ k, F k → Off w [[(b_1, .cells (([.slice A_2 a0.code.length c_3, .int .i64 a0.locs, .int .i64 a0.base, .slice A_5 a0.answers.length c_6] : List Value) ++ (cs_8 ++ (([] : List Value) ++ (cs_10 ++ ([.bool a0.less, .bool a0.same, .int .u64 a0.held, .int .u64 a0.ctrl, .int .u64 a0.fenced, .int .i64 a0.hold, .int .i64 a0.event, .slice A_12 a0.out.length c_13] : List Value))))).toArray 59 (0, 0))], X_15] k) (hX : Have w [[(b_1, .cells (([.slice A_2 a0.code.length c_3, .int .i64 a0.locs, .int .i64 a0.base, .slice A_5 a0.answers.length c_6] : List Value) ++ (cs_8 ++ (([] : List Value) ++ (cs_10 ++ ([.bool a0.less, .bool a0.same, .int .u64 a0.held, .int .u64 a0.ctrl, .int .u64 a0.fenced, .int .i64 a0.hold, .int .i64 a0.event, .slice A_12 a0.out.length c_13] : List Value))))).toArray 59 (0, 0))], X_15]) (q_4 : RdS api_Inst_E F w A_2 c_3 a0.code) (q_7 : RdS (intE .i64) F w A_5 c_6 a0.answers) (q_9 : Reps thread_cell_E no wz a0.regs.toList cs_8) (q_11 : Reps thread_cell_E no wz a0.stack.toList cs_10) (q_14 : Own api_Event_E no wz 33 A_12 c_13 a0.out X_15) :
    Ret Try.prog 39 [.pointer (some ⟨b_1, 0, none⟩), .int .i64 a1] w fun v w' => ∃ (cs_1025 : List Value) (cs_1027 : List Value) (X_1030 : Rsc), v = .bool ((thread_thread_branch.m a0 a1).1) ∧ RdS api_Inst_E F w A_2 c_3 (((thread_thread_branch.m a0 a1).2).code) ∧ RdS (intE .i64) F w A_5 c_6 (((thread_thread_branch.m a0 a1).2).answers) ∧ Reps thread_cell_E no wz (((thread_thread_branch.m a0 a1).2).regs).toList cs_1025 ∧ Reps thread_cell_E no wz (((thread_thread_branch.m a0 a1).2).stack).toList cs_1027 ∧ Own api_Event_E no wz 33 A_12 c_13 (((thread_thread_branch.m a0 a1).2).out) X_1030 ∧ Aft w w' [[(b_1, .cells (([.slice A_2 a0.code.length c_3, .int .i64 a0.locs, .int .i64 a0.base, .slice A_5 a0.answers.length c_6] : List Value) ++ (cs_8 ++ (([] : List Value) ++ (cs_10 ++ ([.bool a0.less, .bool a0.same, .int .u64 a0.held, .int .u64 a0.ctrl, .int .u64 a0.fenced, .int .i64 a0.hold, .int .i64 a0.event, .slice A_12 a0.out.length c_13] : List Value))))).toArray 59 (0, 0))], X_15] [[(b_1, .cells (([.slice A_2 (((thread_thread_branch.m a0 a1).2).code).length c_3, .int .i64 (((thread_thread_branch.m a0 a1).2).locs), .int .i64 (((thread_thread_branch.m a0 a1).2).base), .slice A_5 (((thread_thread_branch.m a0 a1).2).answers).length c_6] : List Value) ++ (cs_1025 ++ (([] : List Value) ++ (cs_1027 ++ ([.bool (((thread_thread_branch.m a0 a1).2).less), .bool (((thread_thread_branch.m a0 a1).2).same), .int .u64 (((thread_thread_branch.m a0 a1).2).held), .int .u64 (((thread_thread_branch.m a0 a1).2).ctrl), .int .u64 (((thread_thread_branch.m a0 a1).2).fenced), .int .i64 (((thread_thread_branch.m a0 a1).2).hold), .int .i64 (((thread_thread_branch.m a0 a1).2).event), .slice A_12 (((thread_thread_branch.m a0 a1).2).out).length c_13] : List Value))))).toArray 59 (0, 0))], X_1030] := by
  obtain ⟨r, H⟩ : ∃ r, thread_thread_branch.m a0 a1 = r := ⟨_, rfl⟩
  rw [H]
  unfold thread_thread_branch.m at H
  have hp0 := Hp.startR hX hF
  have ep0 := Ep.refl F [[(b_1, .cells (([.slice A_2 a0.code.length c_3, .int .i64 a0.locs, .int .i64 a0.base, .slice A_5 a0.answers.length c_6] : List Value) ++ (cs_8 ++ (([] : List Value) ++ (cs_10 ++ ([.bool a0.less, .bool a0.same, .int .u64 a0.held, .int .u64 a0.ctrl, .int .u64 a0.fenced, .int .i64 a0.hold, .int .i64 a0.event, .slice A_12 a0.out.length c_13] : List Value))))).toArray 59 (0, 0))], X_15] w
  refine enter (L := [(0, .pointer (some ⟨b_1, 0, none⟩)), (1, .int .i64 a1)]) Try.func39 rfl Try.ntmps39 rfl rfl ?_
  refine kq tb hp0 [] [] (by kernel_rfl) fun σ => ?_
  refine k_seq ?_
  refine k_anyF [[0, 1], [0, 1], [0, 1], [0, 1], [0, 1], [0, 1], [0, 1], [0, 1], [0, 1], [0, 1], [0, 1], [1]] [0, 1, 3, 7, 0, 16, 48, 112, 255, 511, 1023, 2047] mixed hp0 12 (by kernel_rfl) (fun w_16 hp_17 => ?_)
  refine w_takes (f := 1) tb [0, 1] (Wp.of hp_17 [0, 1] rfl) [] [] [⟨0, 868, _, _, [0], fun w h => cells_box (sz := 8) (h.get (i := 0) (j := 0) rfl rfl) (segs 4 864 8 rfl (segs 64 800 8 (arr_len q_9 rfl) (segs 0 800 8 rfl (segs 800 0 8 (arr_len q_11 rfl) rfl))))⟩] [(0, 0, 0)] [] [0, 1, 2, 4, 5, 6, 3, 7, 8, 9, 10] 2047 [(13, .int .u64 (bits .or .u64 a0.ctrl a0.held)), (15, .pointer (some ⟨b_1, 871, none⟩))] (fun _ => (po_then po_body)) rfl rfl (by kernel_rfl) fun σ => ?_
  refine w_one (m' := 4095) 11 rfl (by kernel_rfl) (by kernel_rfl) ?_
  refine s_store (i := 0) (j := 0) (vs := [.int .u64 (bits .or .u64 a0.ctrl a0.held)]) (l' := (([.slice A_2 a0.code.length c_3, .int .i64 a0.locs, .int .i64 a0.base, .slice A_5 a0.answers.length c_6] : List Value) ++ (cs_8 ++ (([] : List Value) ++ (cs_10 ++ ([.bool a0.less, .bool a0.same, .int .u64 a0.held, .int .u64 (bits .or .u64 a0.ctrl a0.held), .int .u64 a0.fenced, .int .i64 a0.hold, .int .i64 a0.event, .slice A_12 a0.out.length c_13] : List Value)))))) hp_17 (tm rfl rfl) (tm rfl rfl) rfl Try.sizeOf31 rfl rfl rfl rfl (ble_len (lenA rfl (lenA (arr_len q_9 rfl) (lenA rfl (lenA (arr_len q_11 rfl) rfl)))) rfl) (segu 4 867 rfl (segu 64 803 (arr_len q_9 rfl) (segu 0 803 rfl (segu 800 3 (arr_len q_11 rfl) rfl)))) (fun w_18 hp_19 => ?_)
  refine k_nil ?_
  refine ⟨(Wp.of hp_19 [1] rfl), ?_⟩
  refine w_done (by kernel_rfl) ?_
  refine k_seq ?_
  refine kq tb hp_19 [] [(16, .int .i64 a1)] (by kernel_rfl) fun σ => ?_
  refine k_block ?_
  refine kq tb hp_19 [] [(17, .bool (decide (a1 = 0)))] (by kernel_rfl) fun σ => ?_
  refine k_if (tm rfl rfl) (fun h_20 => ?_) (fun h_20 => ?_)
  · have H := ift h_20 H
    refine kqx tb hp_19 [] [] [⟨0, 868, _, _, cells_box (sz := 8) (hp_19.get (i := 0) (j := 0) rfl rfl) (segs 4 864 8 rfl (segs 64 800 8 (arr_len q_9 rfl) (segs 0 800 8 rfl (segs 800 0 8 (arr_len q_11 rfl) rfl))))⟩] [(0, 0, 0)] [] [(4, .bool a0.less)] (by kernel_rfl) fun σ => ?_
    refine k_ret ?_
    refine q_ret ?_
    obtain rfl := id H
    exact k_end rfl (.tmp rfl rfl .nil) rfl ⟨cs_8, cs_10, X_15, rfl, q_4, q_7, q_9, q_11, q_14, (hp_19).aft⟩
  have H := iff_ h_20 H
  refine kq tb hp_19 [] [(23, .bool (decide (a1 = 1)))] (by kernel_rfl) fun σ => ?_
  refine k_if (tm rfl rfl) (fun h_21 => ?_) (fun h_21 => ?_)
  · have H := ift h_21 H
    refine kqx tb hp_19 [] [] [⟨0, 868, _, _, cells_box (sz := 8) (hp_19.get (i := 0) (j := 0) rfl rfl) (segs 4 864 8 rfl (segs 64 800 8 (arr_len q_9 rfl) (segs 0 800 8 rfl (segs 800 0 8 (arr_len q_11 rfl) rfl))))⟩] [(0, 0, 0)] [] [(4, .bool (!a0.less))] (by kernel_rfl) fun σ => ?_
    refine k_ret ?_
    refine q_ret ?_
    obtain rfl := id H
    exact k_end rfl (.tmp rfl rfl .nil) rfl ⟨cs_8, cs_10, X_15, rfl, q_4, q_7, q_9, q_11, q_14, (hp_19).aft⟩
  have H := iff_ h_21 H
  refine kq tb hp_19 [] [(30, .bool (decide (a1 = 2)))] (by kernel_rfl) fun σ => ?_
  refine k_if (tm rfl rfl) (fun h_22 => ?_) (fun h_22 => ?_)
  · have H := ift h_22 H
    refine kqx tb hp_19 [] [] [⟨0, 868, _, _, cells_box (sz := 8) (hp_19.get (i := 0) (j := 0) rfl rfl) (segs 4 864 8 rfl (segs 64 800 8 (arr_len q_9 rfl) (segs 0 800 8 rfl (segs 800 0 8 (arr_len q_11 rfl) rfl))))⟩] [(0, 0, 0)] [] [(4, .bool a0.same)] (by kernel_rfl) fun σ => ?_
    refine k_ret ?_
    refine q_ret ?_
    obtain rfl := id H
    exact k_end rfl (.tmp rfl rfl .nil) rfl ⟨cs_8, cs_10, X_15, rfl, q_4, q_7, q_9, q_11, q_14, (hp_19).aft⟩
  have H := iff_ h_22 H
  refine k_skip ?_
  refine kqx tb hp_19 [] [] [⟨0, 868, _, _, cells_box (sz := 8) (hp_19.get (i := 0) (j := 0) rfl rfl) (segs 4 864 8 rfl (segs 64 800 8 (arr_len q_9 rfl) (segs 0 800 8 rfl (segs 800 0 8 (arr_len q_11 rfl) rfl))))⟩] [(0, 0, 0)] [] [(4, .bool (!a0.same))] (by kernel_rfl) fun σ => ?_
  refine k_ret ?_
  obtain rfl := id H
  exact k_end rfl (.tmp rfl rfl .nil) rfl ⟨cs_8, cs_10, X_15, rfl, q_4, q_7, q_9, q_11, q_14, (hp_19).aft⟩

end Go.Proofs.Ytcnchjlomcafeaa.W

/- Functions of the program as plain Lean functions, and that the calls do what they say: written by w2.py. -/
import Derived.Test.YtcnchjlomcafeaaDefer
import Derived.Test.YtcnchjlomcafeaaTy
set_option linter.unusedVariables false
set_option linter.unusedSimpArgs false
set_option linter.unusedSectionVars false
namespace Go.Proofs.Ytcnchjlomcafeaa.W
open Go Go.RowKit Go.Proofs.Ytcnchjlomcafeaa.B
attribute [local irreducible] Go.wpList Go.Code.wp Go.Region.wanted Go.yielded
/-! ### (*selvage/thread.thread).or: function 34 -/
def thread_thread_or.m (a0 : thread_thread) (a1 : Int) : Option thread_cell :=
  if (decide (a1 = 0)) = true then (some (⟨0, 0⟩ : thread_cell)) else (if 0 ≤ a1 ∧ a1 < (32 : Int) then (some (⟨(vg a0.regs a1).n, (vg a0.regs a1).hang⟩ : thread_cell)) else none)
set_option maxHeartbeats 4000000 in
set_option maxRecDepth 100000 in
theorem thread_thread_or.calls (a0 : thread_thread) (b_1 : Nat) (A_2 : Option Addr) (c_3 : Nat) (A_5 : Option Addr) (c_6 : Nat) (cs_8 : List Value) (cs_10 : List Value) (A_12 : Option Addr) (c_13 : Nat) (X_15 : Rsc) (a1 : Int) (r : thread_cell) (w : World) (F : Nat → Prop) (hF : ∀ k, F k → Off w [[(b_1, .cells (([.slice A_2 a0.code.length c_3, .int .i64 a0.locs, .int .i64 a0.base, .slice A_5 a0.answers.length c_6] : List Value) ++ (cs_8 ++ (([] : List Value) ++ (cs_10 ++ ([.bool a0.less, .bool a0.same, .int .u64 a0.held, .int .u64 a0.ctrl, .int .u64 a0.fenced, .int .i64 a0.hold, .int .i64 a0.event, .slice A_12 a0.out.length c_13] : List Value))))).toArray 59 (0, 0))], X_15] k) (hX : Have w [[(b_1, .cells (([.slice A_2 a0.code.length c_3, .int .i64 a0.locs, .int .i64 a0.base, .slice A_5 a0.answers.length c_6] : List Value) ++ (cs_8 ++ (([] : List Value) ++ (cs_10 ++ ([.bool a0.less, .bool a0.same, .int .u64 a0.held, .int .u64 a0.ctrl, .int .u64 a0.fenced, .int .i64 a0.hold, .int .i64 a0.event, .slice A_12 a0.out.length c_13] : List Value))))).toArray 59 (0, 0))], X_15]) (q_4 : RdS api_Inst_E F w A_2 c_3 a0.code) (q_7 : RdS (intE .i64) F w A_5 c_6 a0.answers) (q_9 : Reps thread_cell_E no wz a0.regs.toList cs_8) (q_11 : Reps thread_cell_E no wz a0.stack.toList cs_10) (q_14 : Own api_Event_E no wz 33 A_12 c_13 a0.out X_15) (H : thread_thread_or.m a0 a1 = some r) :
    Ret Try.prog 34 [.pointer (some ⟨b_1, 0, none⟩), .int .i64 a1] w fun v w' => v = .agg #[.int .i64 r.n, .int .u64 r.hang] ∧ Aft w w' [[(b_1, .cells (([.slice A_2 a0.code.length c_3, .int .i64 a0.locs, .int .i64 a0.base, .slice A_5 a0.answers.length c_6] : List Value) ++ (cs_8 ++ (([] : List Value) ++ (cs_10 ++ ([.bool a0.less, .bool a0.same, .int .u64 a0.held, .int .u64 a0.ctrl, .int .u64 a0.fenced, .int .i64 a0.hold, .int .i64 a0.event, .slice A_12 a0.out.length c_13] : List Value))))).toArray 59 (0, 0))], X_15] [[(b_1, .cells (([.slice A_2 a0.code.length c_3, .int .i64 a0.locs, .int .i64 a0.base, .slice A_5 a0.answers.length c_6] : List Value) ++ (cs_8 ++ (([] : List Value) ++ (cs_10 ++ ([.bool a0.less, .bool a0.same, .int .u64 a0.held, .int .u64 a0.ctrl, .int .u64 a0.fenced, .int .i64 a0.hold, .int .i64 a0.event, .slice A_12 a0.out.length c_13] : List Value))))).toArray 59 (0, 0))], X_15] := by
  unfold thread_thread_or.m at H
  have hp0 := Hp.startR hX hF
  have ep0 := Ep.refl F [[(b_1, .cells (([.slice A_2 a0.code.length c_3, .int .i64 a0.locs, .int .i64 a0.base, .slice A_5 a0.answers.length c_6] : List Value) ++ (cs_8 ++ (([] : List Value) ++ (cs_10 ++ ([.bool a0.less, .bool a0.same, .int .u64 a0.held, .int .u64 a0.ctrl, .int .u64 a0.fenced, .int .i64 a0.hold, .int .i64 a0.event, .slice A_12 a0.out.length c_13] : List Value))))).toArray 59 (0, 0))], X_15] w
  refine enter (L := [(0, .pointer (some ⟨b_1, 0, none⟩)), (1, .int .i64 a1)]) Try.func34 rfl Try.ntmps34 rfl rfl ?_
  refine k_seq ?_
  refine k_region ?_
  refine s_alloc (zv := .agg #[.int .i64 0, .int .u64 0]) (l := [.int .i64 0, .int .u64 0]) hp0 (by intro w_; kernel_rfl) rfl rfl (fun b_16 w_17 hp_18 => ?_)
  refine k_nil ?_
  refine k_seq ?_
  refine k_seq ?_
  refine k_region ?_
  refine sv (v := .int .i64 a1) rfl rfl rfl (e_move (tm rfl rfl)) ?_
  refine sv (v := .bool (decide (a1 = 0))) rfl rfl rfl (e_bin (tm rfl rfl) rfl (r_eql rfl)) ?_
  refine k_nil ?_
  refine k_if (tm rfl rfl) (fun h_19 => ?_) (fun h_19 => ?_)
  · have H := ift h_19 H
    refine k_seq ?_
    refine k_region ?_
    refine sv (v := .agg #[.int .i64 0, .int .u64 0]) rfl rfl rfl (e_build (vs := []) (cs := [.int .i64 0, .int .u64 0]) .nil (by kernel_rfl)) ?_
    refine s_store (i := 2) (j := 0) (vs := [.int .i64 0, .int .u64 0]) (l' := [.int .i64 0, .int .u64 0]) hp_18 (tm rfl rfl) (tm rfl rfl) rfl Try.sizeOf55 rfl rfl rfl rfl rfl rfl (fun w_20 hp_21 => ?_)
    refine k_nil ?_
    refine k_ret ?_
    obtain rfl := Option.some.inj H
    exact k_end rfl (.cell rfl rfl (r_loadA Try.isAgg55 Try.sizeOf55 rfl (cells_box (sz := 2) (hp_21.get (i := 2) (j := 0) rfl rfl) rfl)) .nil) rfl ⟨rfl, (hp_21.pick [0, 1] (by decide) rfl).aft⟩
  have H := iff_ h_19 H
  refine k_skip ?_
  refine k_seq ?_
  refine k_region ?_
  refine sv (v := .pointer (some ⟨b_1, 0, none⟩)) rfl rfl rfl (e_move (tm rfl rfl)) ?_
  refine sv (v := .int .i64 a1) rfl rfl rfl (e_move (tm rfl rfl)) ?_
  refine sv (v := .pointer (some ⟨b_1, 0, none⟩)) rfl rfl rfl (e_nilCheckP (tm rfl rfl)) ?_
  refine sv (v := .pointer (some ⟨b_1, 4, none⟩)) rfl rfl rfl (e_fieldAddr (tm rfl rfl) Try.runUnderlying59 rfl Try.sizeOf56 rfl rfl) ?_
  obtain ⟨g_22, H⟩ := grd H
  obtain ⟨cs_24, rp_23, q_25⟩ := arr_elem q_9 g_22
  obtain rfl : cs_24 = [.int .i64 ((vg a0.regs a1).n), .int .u64 ((vg a0.regs a1).hang)] := rp_23
  refine sv (v := .pointer (some ⟨b_1, 4 + (a1 : Int).toNat * 2, none⟩)) rfl rfl rfl (e_aidx (tm rfl rfl) (tm rfl rfl) Try.runUnderlying56 Try.sizeOf55 g_22) ?_
  refine sv (v := .agg #[.int .i64 ((vg a0.regs a1).n), .int .u64 ((vg a0.regs a1).hang)]) rfl rfl rfl (e_loadA (tm rfl rfl) Try.isAgg55 Try.sizeOf55 rfl ((arr_at (pre := ([.slice A_2 a0.code.length c_3, .int .i64 a0.locs, .int .i64 a0.base, .slice A_5 a0.answers.length c_6] : List Value)) (post := ([] : List Value) ++ (cs_10 ++ ([.bool a0.less, .bool a0.same, .int .u64 a0.held, .int .u64 a0.ctrl, .int .u64 a0.fenced, .int .i64 a0.hold, .int .i64 a0.event, .slice A_12 a0.out.length c_13] : List Value))) (hp_18.get (i := 0) (j := 0) rfl rfl) rfl rfl q_25))) ?_
  refine s_store (i := 2) (j := 0) (vs := [.int .i64 ((vg a0.regs a1).n), .int .u64 ((vg a0.regs a1).hang)]) (l' := [.int .i64 ((vg a0.regs a1).n), .int .u64 ((vg a0.regs a1).hang)]) hp_18 (tm rfl rfl) (tm rfl rfl) rfl Try.sizeOf55 rfl rfl rfl rfl rfl rfl (fun w_26 hp_27 => ?_)
  refine k_nil ?_
  refine k_ret ?_
  obtain rfl := Option.some.inj H
  exact k_end rfl (.cell rfl rfl (r_loadA Try.isAgg55 Try.sizeOf55 rfl (cells_box (sz := 2) (hp_27.get (i := 2) (j := 0) rfl rfl) rfl)) .nil) rfl ⟨rfl, (hp_27.pick [0, 1] (by decide) rfl).aft⟩

end Go.Proofs.Ytcnchjlomcafeaa.W

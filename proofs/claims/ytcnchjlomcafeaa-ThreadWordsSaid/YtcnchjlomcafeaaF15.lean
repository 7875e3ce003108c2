/- Functions of the program as plain Lean functions, and that the calls do what they say: written by w2.py. -/
import Derived.Test.YtcnchjlomcafeaaRun
import Derived.Test.YtcnchjlomcafeaaTy
import Derived.Test.YtcnchjlomcafeaaG0
import Derived.Test.YtcnchjlomcafeaaG1
set_option linter.unusedVariables false
set_option linter.unusedSimpArgs false
set_option linter.unusedSectionVars false
namespace Go.Proofs.Ytcnchjlomcafeaa.W
open Go Go.RowKit Go.Proofs.Ytcnchjlomcafeaa.B
attribute [local irreducible] Go.wpList Go.Code.wp Go.Region.wanted Go.yielded
/-! ### (*selvage/thread.thread).step: function 20 -/
def thread_thread_step.m (a0 : thread_thread) (a1 : api_Inst) : Option ((Int × thread_thread) ⊕ (Int × thread_thread)) :=
 if 0 ≤ a1.A ∧ a1.A < (32 : Int) then (if 0 ≤ a1.B ∧ a1.B < (32 : Int) then ((thread_thread_or.m a0 a1.A).bind fun r_37 => ((if (decide (a1.Op = 1)) = true then (if 0 ≤ a1.T ∧ a1.T < (32 : Int) then (some (Sum.inl { a0 with regs := (vp a0.regs a1.T (⟨wrap64 (r_37.n + a1.Imm), r_37.hang⟩ : thread_cell)) })) else none) else (if (decide (a1.Op = 2)) = true then (if 0 ≤ a1.T ∧ a1.T < (32 : Int) then (some (Sum.inl { a0 with regs := (vp a0.regs a1.T (⟨wrap64 (r_37.n + (wrap64 (a1.Imm * 65536))), r_37.hang⟩ : thread_cell)) })) else none) else (if (decide (a1.Op = 3)) = true then (if 0 ≤ a1.T ∧ a1.T < (32 : Int) then (some (Sum.inl { a0 with regs := (vp a0.regs a1.T (⟨bits .or .i64 ((vg a0.regs a1.A).n) a1.Imm, (vg a0.regs a1.A).hang⟩ : thread_cell)) })) else none) else (if (decide (a1.Op = 4)) = true then (if 0 ≤ a1.T ∧ a1.T < (32 : Int) then (some (Sum.inl { a0 with regs := (vp a0.regs a1.T (⟨bits .or .i64 ((vg a0.regs a1.A).n) (wrap64 (a1.Imm * 65536)), (vg a0.regs a1.A).hang⟩ : thread_cell)) })) else none) else (if (decide (a1.Op = 5)) = true then (if 0 ≤ a1.T ∧ a1.T < (32 : Int) then (some (Sum.inl { a0 with regs := (vp a0.regs a1.T (⟨wrap64 (((vg a0.regs a1.A).n) * 2 ^ (min ((a1.Imm) % 18446744073709551616).toNat 64)), (vg a0.regs a1.A).hang⟩ : thread_cell)) })) else none) else (if (decide (a1.Op = 6)) = true then (if 0 ≤ a1.T ∧ a1.T < (32 : Int) then (some (Sum.inl { a0 with regs := (vp a0.regs a1.T (⟨(thread_two.m (wrap64 (((vg a0.regs a1.A).n) + ((vg a0.regs a1.B).n))) (⟨(vg a0.regs a1.A).n, (vg a0.regs a1.A).hang⟩ : thread_cell) (⟨(vg a0.regs a1.B).n, (vg a0.regs a1.B).hang⟩ : thread_cell)).n, (thread_two.m (wrap64 (((vg a0.regs a1.A).n) + ((vg a0.regs a1.B).n))) (⟨(vg a0.regs a1.A).n, (vg a0.regs a1.A).hang⟩ : thread_cell) (⟨(vg a0.regs a1.B).n, (vg a0.regs a1.B).hang⟩ : thread_cell)).hang⟩ : thread_cell)) })) else none) else (if (decide (a1.Op = 7)) = true then (if 0 ≤ a1.T ∧ a1.T < (32 : Int) then (some (Sum.inl { a0 with regs := (vp a0.regs a1.T (⟨(thread_two.m (wrap64 (((vg a0.regs a1.B).n) - ((vg a0.regs a1.A).n))) (⟨(vg a0.regs a1.A).n, (vg a0.regs a1.A).hang⟩ : thread_cell) (⟨(vg a0.regs a1.B).n, (vg a0.regs a1.B).hang⟩ : thread_cell)).n, (thread_two.m (wrap64 (((vg a0.regs a1.B).n) - ((vg a0.regs a1.A).n))) (⟨(vg a0.regs a1.A).n, (vg a0.regs a1.A).hang⟩ : thread_cell) (⟨(vg a0.regs a1.B).n, (vg a0.regs a1.B).hang⟩ : thread_cell)).hang⟩ : thread_cell)) })) else none) else (if (decide (a1.Op = 8)) = true then (if 0 ≤ a1.T ∧ a1.T < (32 : Int) then (some (Sum.inl { a0 with regs := (vp a0.regs a1.T (⟨(thread_two.m (wrap64 (((vg a0.regs a1.A).n) * ((vg a0.regs a1.B).n))) (⟨(vg a0.regs a1.A).n, (vg a0.regs a1.A).hang⟩ : thread_cell) (⟨(vg a0.regs a1.B).n, (vg a0.regs a1.B).hang⟩ : thread_cell)).n, (thread_two.m (wrap64 (((vg a0.regs a1.A).n) * ((vg a0.regs a1.B).n))) (⟨(vg a0.regs a1.A).n, (vg a0.regs a1.A).hang⟩ : thread_cell) (⟨(vg a0.regs a1.B).n, (vg a0.regs a1.B).hang⟩ : thread_cell)).hang⟩ : thread_cell)) })) else none) else (if (decide (a1.Op = 9)) = true then ((thread_quotient.m ((vg a0.regs a1.A).n) ((vg a0.regs a1.B).n)).bind fun r_228 => (if 0 ≤ a1.T ∧ a1.T < (32 : Int) then (some (Sum.inl { a0 with regs := (vp a0.regs a1.T (⟨(thread_two.m r_228 (⟨(vg a0.regs a1.A).n, (vg a0.regs a1.A).hang⟩ : thread_cell) (⟨(vg a0.regs a1.B).n, (vg a0.regs a1.B).hang⟩ : thread_cell)).n, (thread_two.m r_228 (⟨(vg a0.regs a1.A).n, (vg a0.regs a1.A).hang⟩ : thread_cell) (⟨(vg a0.regs a1.B).n, (vg a0.regs a1.B).hang⟩ : thread_cell)).hang⟩ : thread_cell)) })) else none)) else (if (decide (a1.Op = 16)) = true then (some (Sum.inl { a0 with less := decide (((vg a0.regs a1.A).n) < ((vg a0.regs a1.B).n)), same := decide (((vg a0.regs a1.A).n) = ((vg a0.regs a1.B).n)), held := bits .or .u64 ((vg a0.regs a1.A).hang) ((vg a0.regs a1.B).hang) })) else (if (decide (a1.Op = 17)) = true then (some (Sum.inl { a0 with less := decide (((vg a0.regs a1.A).n) < a1.Imm), same := decide (((vg a0.regs a1.A).n) = a1.Imm), held := (vg a0.regs a1.A).hang })) else (if (decide (a1.Op = 10)) = true then ((thread_thread_load.m a0 a1 (⟨wrap64 (r_37.n + a1.Imm), r_37.hang⟩ : thread_cell)).bind fun r_269 => match r_269 with | .inl p_271 => ((some (Sum.inl (p_271.1, p_271.2))).map Sum.inr) | .inr r_270 => (some (Sum.inl r_270))) else (if (decide (a1.Op = 11)) = true then ((thread_thread_store.m a0 a1 (⟨wrap64 (r_37.n + a1.Imm), r_37.hang⟩ : thread_cell)).bind fun r_312 => match r_312 with | .inl p_314 => ((some (Sum.inl (p_314.1, p_314.2))).map Sum.inr) | .inr r_313 => (some (Sum.inl r_313))) else ((if (decide (a1.Op = 12)) = true then (some (decide (a1.Op = 12))) else (some (decide (a1.Op = 14))) : Option Bool).bind fun o_348 => if o_348 = true then ((thread_thread_load.m a0 a1 (⟨(thread_two.m (wrap64 (r_37.n + ((vg a0.regs a1.B).n))) r_37 (⟨(vg a0.regs a1.B).n, (vg a0.regs a1.B).hang⟩ : thread_cell)).n, (thread_two.m (wrap64 (r_37.n + ((vg a0.regs a1.B).n))) r_37 (⟨(vg a0.regs a1.B).n, (vg a0.regs a1.B).hang⟩ : thread_cell)).hang⟩ : thread_cell)).bind fun r_367 => match r_367 with | .inl p_369 => ((some (Sum.inl (p_369.1, p_369.2))).map Sum.inr) | .inr r_368 => (some (Sum.inl r_368))) else ((if (decide (a1.Op = 13)) = true then (some (decide (a1.Op = 13))) else (some (decide (a1.Op = 15))) : Option Bool).bind fun o_407 => if o_407 = true then ((thread_thread_store.m a0 a1 (⟨(thread_two.m (wrap64 (r_37.n + ((vg a0.regs a1.B).n))) r_37 (⟨(vg a0.regs a1.B).n, (vg a0.regs a1.B).hang⟩ : thread_cell)).n, (thread_two.m (wrap64 (r_37.n + ((vg a0.regs a1.B).n))) r_37 (⟨(vg a0.regs a1.B).n, (vg a0.regs a1.B).hang⟩ : thread_cell)).hang⟩ : thread_cell)).bind fun r_426 => match r_426 with | .inl p_428 => ((some (Sum.inl (p_428.1, p_428.2))).map Sum.inr) | .inr r_427 => (some (Sum.inl r_427))) else (if (decide (a1.Op = 18)) = true then (if ((thread_thread_branch.m a0 a1.T).1) = true then ((some (Sum.inr (wrap64 (Int.tdiv a1.Imm 4), (thread_thread_branch.m a0 a1.T).2))).map Sum.inr) else (some (Sum.inl ((thread_thread_branch.m a0 a1.T).2)))) else (if (decide (a1.Op = 19)) = true then ((some (Sum.inr (wrap64 (Int.tdiv a1.Imm 4), a0))).map Sum.inr) else (if (decide (a1.Op = 20)) = true then ((thread_thread_tell.m a0 (⟨3, 0, 0, 0, 0, 0, 0, 0⟩ : api_Event)).bind fun r_485 => match r_485 with | .inl p_487 => ((some (Sum.inl (p_487.1, p_487.2))).map Sum.inr) | .inr r_486 => (some (Sum.inl r_486))) else (if (decide (a1.Op = 21)) = true then ((thread_thread_tell.m a0 (⟨4, 0, 0, 0, 0, 0, 0, 0⟩ : api_Event)).bind fun r_524 => match r_524 with | .inl p_526 => ((some (Sum.inl (p_526.1, p_526.2))).map Sum.inr) | .inr r_525 => (some (Sum.inl r_525))) else (if (decide (a1.Op = 22)) = true then ((thread_thread_tell.m a0 (⟨5, 0, 0, 0, 0, 0, 0, 0⟩ : api_Event)).bind fun r_563 => match r_563 with | .inl p_565 => ((some (Sum.inl (p_565.1, p_565.2))).map Sum.inr) | .inr r_564 => (some (Sum.inl { r_564 with fenced := bits .or .u64 r_564.fenced r_564.ctrl }))) else (if (decide (a1.Op = 23)) = true then ((thread_thread_call.m a0).bind fun r_606 => match r_606 with | .inl p_608 => ((some (Sum.inl (p_608.1, p_608.2))).map Sum.inr) | .inr r_607 => (some (Sum.inl r_607))) else (some (Sum.inl a0)))))))))))))))))))))) : Option (thread_thread ⊕ ((Int × thread_thread) ⊕ (Int × thread_thread)))).bind fun o_111 => match o_111 with | .inl s_113 => (some (Sum.inr (1, s_113))) | .inr r_660 => some r_660)) else none) else none
set_option maxHeartbeats 4000000 in
set_option maxRecDepth 100000 in
theorem thread_thread_step.calls_ (a0 : thread_thread) (b_1 : Nat) (A_2 : Option Addr) (c_3 : Nat) (A_5 : Option Addr) (c_6 : Nat) (cs_8 : List Value) (cs_10 : List Value) (A_12 : Option Addr) (c_13 : Nat) (X_15 : Rsc) (a1 : api_Inst) (r : (Int × thread_thread) ⊕ (Int × thread_thread)) (w : World) (F : Nat → Prop) (hF : ∀ k, F k → Off w [[(b_1, .cells (([.slice A_2 a0.code.length c_3, .int .i64 a0.locs, .int .i64 a0.base, .slice A_5 a0.answers.length c_6] : List Value) ++ (cs_8 ++ (([] : List Value) ++ (cs_10 ++ ([.bool a0.less, .bool a0.same, .int .u64 a0.held, .int .u64 a0.ctrl, .int .u64 a0.fenced, .int .i64 a0.hold, .int .i64 a0.event, .slice A_12 a0.out.length c_13] : List Value))))).toArray 59 (0, 0))], X_15] k) (hX : Have w [[(b_1, .cells (([.slice A_2 a0.code.length c_3, .int .i64 a0.locs, .int .i64 a0.base, .slice A_5 a0.answers.length c_6] : List Value) ++ (cs_8 ++ (([] : List Value) ++ (cs_10 ++ ([.bool a0.less, .bool a0.same, .int .u64 a0.held, .int .u64 a0.ctrl, .int .u64 a0.fenced, .int .i64 a0.hold, .int .i64 a0.event, .slice A_12 a0.out.length c_13] : List Value))))).toArray 59 (0, 0))], X_15]) (q_4 : RdS api_Inst_E F w A_2 c_3 a0.code) (q_7 : RdS (intE .i64) F w A_5 c_6 a0.answers) (q_9 : Reps thread_cell_E no wz a0.regs.toList cs_8) (q_11 : Reps thread_cell_E no wz a0.stack.toList cs_10) (q_14 : Own api_Event_E no wz 33 A_12 c_13 a0.out X_15) (H : thread_thread_step.m a0 a1 = some r) :
 RetP Try.prog 20 [.pointer (some ⟨b_1, 0, none⟩), .agg #[.int .i64 a1.Op, .int .i64 a1.T, .int .i64 a1.A, .int .i64 a1.B, .int .i64 a1.Imm]] w (fun v w' => ∃ r', r = Sum.inr r' ∧ ∃ (A_1662 : Option Addr) (c_1663 : Nat) (cs_1665 : List Value) (cs_1667 : List Value) (A_1669 : Option Addr) (c_1670 : Nat) (X_1672 : Rsc), v = .int .i64 r'.1 ∧ RdS api_Inst_E F w A_2 c_3 r'.2.code ∧ RdS (intE .i64) F w A_1662 c_1663 r'.2.answers ∧ Reps thread_cell_E no wz r'.2.regs.toList cs_1665 ∧ Reps thread_cell_E no wz r'.2.stack.toList cs_1667 ∧ Own api_Event_E no wz 33 A_1669 c_1670 r'.2.out X_1672 ∧ Aft w w' [[(b_1, .cells (([.slice A_2 a0.code.length c_3, .int .i64 a0.locs, .int .i64 a0.base, .slice A_5 a0.answers.length c_6] : List Value) ++ (cs_8 ++ (([] : List Value) ++ (cs_10 ++ ([.bool a0.less, .bool a0.same, .int .u64 a0.held, .int .u64 a0.ctrl, .int .u64 a0.fenced, .int .i64 a0.hold, .int .i64 a0.event, .slice A_12 a0.out.length c_13] : List Value))))).toArray 59 (0, 0))], X_15] [[(b_1, .cells (([.slice A_2 r'.2.code.length c_3, .int .i64 r'.2.locs, .int .i64 r'.2.base, .slice A_1662 r'.2.answers.length c_1663] : List Value) ++ (cs_1665 ++ (([] : List Value) ++ (cs_1667 ++ ([.bool r'.2.less, .bool r'.2.same, .int .u64 r'.2.held, .int .u64 r'.2.ctrl, .int .u64 r'.2.fenced, .int .i64 r'.2.hold, .int .i64 r'.2.event, .slice A_1669 r'.2.out.length c_1670] : List Value))))).toArray 59 (0, 0))], X_1672]) (fun c w' => ∃ p', r = Sum.inl p' ∧ ∃ (A_1674 : Option Addr) (c_1675 : Nat) (cs_1677 : List Value) (cs_1679 : List Value) (A_1681 : Option Addr) (c_1682 : Nat) (X_1684 : Rsc), c = [⟨.iface 60 (.int .i64 p'.1), false, false⟩] ∧ RdS api_Inst_E F w A_2 c_3 p'.2.code ∧ RdS (intE .i64) F w A_1674 c_1675 p'.2.answers ∧ Reps thread_cell_E no wz p'.2.regs.toList cs_1677 ∧ Reps thread_cell_E no wz p'.2.stack.toList cs_1679 ∧ Own api_Event_E no wz 33 A_1681 c_1682 p'.2.out X_1684 ∧ Aft w w' [[(b_1, .cells (([.slice A_2 a0.code.length c_3, .int .i64 a0.locs, .int .i64 a0.base, .slice A_5 a0.answers.length c_6] : List Value) ++ (cs_8 ++ (([] : List Value) ++ (cs_10 ++ ([.bool a0.less, .bool a0.same, .int .u64 a0.held, .int .u64 a0.ctrl, .int .u64 a0.fenced, .int .i64 a0.hold, .int .i64 a0.event, .slice A_12 a0.out.length c_13] : List Value))))).toArray 59 (0, 0))], X_15] [[(b_1, .cells (([.slice A_2 p'.2.code.length c_3, .int .i64 p'.2.locs, .int .i64 p'.2.base, .slice A_1674 p'.2.answers.length c_1675] : List Value) ++ (cs_1677 ++ (([] : List Value) ++ (cs_1679 ++ ([.bool p'.2.less, .bool p'.2.same, .int .u64 p'.2.held, .int .u64 p'.2.ctrl, .int .u64 p'.2.fenced, .int .i64 p'.2.hold, .int .i64 p'.2.event, .slice A_1681 p'.2.out.length c_1682] : List Value))))).toArray 59 (0, 0))], X_1684]) := by
 unfold thread_thread_step.m at H
 have hp0 := Hp.startR hX hF
 have ep0 := Ep.refl F [[(b_1, .cells (([.slice A_2 a0.code.length c_3, .int .i64 a0.locs, .int .i64 a0.base, .slice A_5 a0.answers.length c_6] : List Value) ++ (cs_8 ++ (([] : List Value) ++ (cs_10 ++ ([.bool a0.less, .bool a0.same, .int .u64 a0.held, .int .u64 a0.ctrl, .int .u64 a0.fenced, .int .i64 a0.hold, .int .i64 a0.event, .slice A_12 a0.out.length c_13] : List Value))))).toArray 59 (0, 0))], X_15] w
 refine enter (L := [(0, .pointer (some ⟨b_1, 0, none⟩)), (1, .agg #[.int .i64 a1.Op, .int .i64 a1.T, .int .i64 a1.A, .int .i64 a1.B, .int .i64 a1.Imm])]) Try.func20 rfl Try.ntmps20 rfl rfl ?_
 refine k_seq ?_
 refine k_region ?_
 refine s_box (l := [.int .i64 a1.Op, .int .i64 a1.T, .int .i64 a1.A, .int .i64 a1.B, .int .i64 a1.Imm]) hp0 (tm rfl rfl) rfl rfl (fun b_16 w_17 hp_18 => ?_)
 refine sv (v := .int .i64 0) rfl rfl rfl (e_assign rfl) ?_
 refine k_nil ?_
 refine k_seq ?_
 refine k_anyF [[0, 1, 2], [0, 1, 2], [0, 1, 2], [0, 1, 2], [0, 1, 2], [0, 1, 2], [0, 1, 2], [0, 1, 2], [0, 1, 2], [0, 1, 2], [0, 1, 2], [0, 1, 2], [0, 1, 2], [0, 1, 2], [0, 1, 2], [0, 1, 2], [0, 1, 2], [0, 1, 2], [0, 1, 2], [0, 1, 2], [0, 1, 2], [0, 1, 2], [0, 1, 2], [0, 1, 2], [0, 1, 2], [0, 1, 2], [0, 1, 2]] [0, 0, 2, 1, 9, 31, 63, 0, 0, 256, 128, 1152, 3968, 8064, 0, 0, 32768, 114688, 0, 262144, 0, 0, 0, 7585919, 15990783, 32767999, 67108863] mixed hp_18 27 (by kernel_rfl) (fun w_19 hp_20 => ?_)
 obtain ⟨g_21, H⟩ := grd H
 obtain ⟨cs_23, rp_22, q_24⟩ := arr_elem q_9 g_21
 obtain rfl : cs_23 = [.int .i64 ((vg a0.regs a1.A).n), .int .u64 ((vg a0.regs a1.A).hang)] := rp_22
 obtain ⟨g_25, H⟩ := grd H
 obtain ⟨cs_27, rp_26, q_28⟩ := arr_elem q_9 g_25
 obtain rfl : cs_27 = [.int .i64 ((vg a0.regs a1.B).n), .int .u64 ((vg a0.regs a1.B).hang)] := rp_26
 refine w_takes (f := 8) tb [0, 1, 2] (Wp.of hp_20 [0, 1, 2] rfl) [⟨_, _, [0], fun w h => arr_at (pre := ([.slice A_2 a0.code.length c_3, .int .i64 a0.locs, .int .i64 a0.base, .slice A_5 a0.answers.length c_6] : List Value)) (post := ([] : List Value) ++ (cs_10 ++ ([.bool a0.less, .bool a0.same, .int .u64 a0.held, .int .u64 a0.ctrl, .int .u64 a0.fenced, .int .i64 a0.hold, .int .i64 a0.event, .slice A_12 a0.out.length c_13] : List Value))) (h.get (i := 0) (j := 0) rfl rfl) rfl rfl q_24⟩, ⟨_, _, [0], fun w h => arr_at (pre := ([.slice A_2 a0.code.length c_3, .int .i64 a0.locs, .int .i64 a0.base, .slice A_5 a0.answers.length c_6] : List Value)) (post := ([] : List Value) ++ (cs_10 ++ ([.bool a0.less, .bool a0.same, .int .u64 a0.held, .int .u64 a0.ctrl, .int .u64 a0.fenced, .int .i64 a0.hold, .int .i64 a0.event, .slice A_12 a0.out.length c_13] : List Value))) (h.get (i := 0) (j := 0) rfl rfl) rfl rfl q_28⟩] [.a 14 3 b_1 4 _ _ g_21, .a 21 4 b_1 4 _ _ g_25] [] [(0, 0, 0), (3, 2, 0)] [] [0, 1, 3, 4, 7, 8, 10, 11, 14, 15, 18, 2, 5, 6, 9, 12, 13, 16, 19] 917503 [(23, .pointer (some ⟨b_1, 0, none⟩)), (15, .agg #[.int .i64 ((vg a0.regs a1.A).n), .int .u64 ((vg a0.regs a1.A).hang)]), (22, .agg #[.int .i64 ((vg a0.regs a1.B).n), .int .u64 ((vg a0.regs a1.B).hang)]), (25, .int .i64 a1.A), (28, .int .i64 a1.Imm)] (fun _ => (po_then po_body)) rfl rfl (by kernel_rfl) fun σ => ?_
 obtain ⟨r_37, hx_36, H⟩ := bindSome H
 refine seenW [(0, .pointer (some ⟨b_1, 0, none⟩)), (3, .pointer (some ⟨b_16, 0, none⟩)), (15, .agg #[.int .i64 ((vg a0.regs a1.A).n), .int .u64 ((vg a0.regs a1.A).hang)]), (22, .agg #[.int .i64 ((vg a0.regs a1.B).n), .int .u64 ((vg a0.regs a1.B).hang)]), (23, .pointer (some ⟨b_1, 0, none⟩)), (25, .int .i64 a1.A), (28, .int .i64 a1.Imm)] ⟨rfl, rfl, rfl, rfl, rfl, rfl, rfl, trivial⟩ ?_
 refine w_par (m' := 33554431) (fun fl_ gb_ gx_ w_ => Hp (On [[(b_1, .cells (([.slice A_2 a0.code.length c_3, .int .i64 a0.locs, .int .i64 a0.base, .slice A_5 a0.answers.length c_6] : List Value) ++ (cs_8 ++ (([] : List Value) ++ (cs_10 ++ ([.bool a0.less, .bool a0.same, .int .u64 a0.held, .int .u64 a0.ctrl, .int .u64 a0.fenced, .int .i64 a0.hold, .int .i64 a0.event, .slice A_12 a0.out.length c_13] : List Value))))).toArray 59 (0, 0))], X_15]) F w w w_ [[(b_1, .cells (([.slice A_2 a0.code.length c_3, .int .i64 a0.locs, .int .i64 a0.base, .slice A_5 a0.answers.length c_6] : List Value) ++ (cs_8 ++ (([] : List Value) ++ (cs_10 ++ ([.bool a0.less, .bool a0.same, .int .u64 a0.held, .int .u64 a0.ctrl, .int .u64 a0.fenced, .int .i64 a0.hold, .int .i64 a0.event, .slice A_12 a0.out.length c_13] : List Value))))).toArray 59 (0, 0))], X_15, [(b_16, .cells #[.int .i64 a1.Op, .int .i64 a1.T, .int .i64 a1.A, .int .i64 a1.B, .int .i64 a1.Imm] 44 (0, 0))], bif fl_ 20 then [(gb_ 20, .cells #[bif fl_ 23 then .int .i64 ((vg a0.regs a1.A).n) else .int .i64 0, bif fl_ 23 then .int .u64 ((vg a0.regs a1.A).hang) else .int .u64 0] 55 (0, 0))] else [], bif fl_ 21 then [(gb_ 21, .cells #[bif fl_ 24 then .int .i64 ((vg a0.regs a1.B).n) else .int .i64 0, bif fl_ 24 then .int .u64 ((vg a0.regs a1.B).hang) else .int .u64 0] 55 (0, 0))] else [], bif fl_ 22 then [(gb_ 22, .cells #[.int .i64 0, .int .u64 0] 55 (0, 0))] else []]) [⟨17, some 26, fun b X v => v = .agg #[.int .i64 r_37.n, .int .u64 r_37.hang]⟩, ⟨20, some 5, fun b X v => v = .pointer (some ⟨b, 0, none⟩)⟩, ⟨21, some 6, fun b X v => v = .pointer (some ⟨b, 0, none⟩)⟩, ⟨22, some 7, fun b X v => v = .pointer (some ⟨b, 0, none⟩)⟩, ⟨23, none, fun b X v => True⟩, ⟨24, none, fun b X v => True⟩] ?_ [17, 20, 21, 22, 23, 24] rfl 6 rfl (by kernel_rfl) rfl (by kernel_rfl) (by kernel_rfl) (by kernel_rfl) (by kernel_rfl) (by kernel_rfl) (Hp.cong (hp_20.pick [0, 1, 2, 3, 4, 5] (by decide) rfl) (by kernel_rfl)) ?_ ?_
 ·intro i hi_ fl_ gb_ gx_ w_ hf_ hj_
  simp only [List.map_cons, List.map_nil, List.mem_cons, List.not_mem_nil, or_false] at hi_
  rcases hi_ with rfl | rfl | rfl | rfl | rfl | rfl
  ·exact Wp.of hj_ [0, 1, 2] rfl
  ·exact Wp.of hj_ [0, 1, 2] rfl
  ·exact Wp.of hj_ [0, 1, 2] rfl
  ·exact Wp.of hj_ [0, 1, 2] rfl
  ·exact Wp.of hj_ [0, 1, 2] rfl
  ·exact Wp.of hj_ [0, 1, 2] rfl
 ·refine .cons [] [] [23] rfl rfl rfl (by kernel_rfl) (by kernel_rfl) (by kernel_rfl) ?_ ?_
  ·rintro σ_29 fl_ gb_ gx_ w_30 hj_31 f_32 - ⟨t_33, -⟩ -
   have hp_34 : Hp (On [[(b_1, .cells (([.slice A_2 a0.code.length c_3, .int .i64 a0.locs, .int .i64 a0.base, .slice A_5 a0.answers.length c_6] : List Value) ++ (cs_8 ++ (([] : List Value) ++ (cs_10 ++ ([.bool a0.less, .bool a0.same, .int .u64 a0.held, .int .u64 a0.ctrl, .int .u64 a0.fenced, .int .i64 a0.hold, .int .i64 a0.event, .slice A_12 a0.out.length c_13] : List Value))))).toArray 59 (0, 0))], X_15]) F w w w_30 [[(b_1, .cells (([.slice A_2 a0.code.length c_3, .int .i64 a0.locs, .int .i64 a0.base, .slice A_5 a0.answers.length c_6] : List Value) ++ (cs_8 ++ (([] : List Value) ++ (cs_10 ++ ([.bool a0.less, .bool a0.same, .int .u64 a0.held, .int .u64 a0.ctrl, .int .u64 a0.fenced, .int .i64 a0.hold, .int .i64 a0.event, .slice A_12 a0.out.length c_13] : List Value))))).toArray 59 (0, 0))], X_15, [(b_16, .cells #[.int .i64 a1.Op, .int .i64 a1.T, .int .i64 a1.A, .int .i64 a1.B, .int .i64 a1.Imm] 44 (0, 0))], bif fl_ 20 then [(gb_ 20, .cells #[bif fl_ 23 then .int .i64 ((vg a0.regs a1.A).n) else .int .i64 0, bif fl_ 23 then .int .u64 ((vg a0.regs a1.A).hang) else .int .u64 0] 55 (0, 0))] else [], bif fl_ 21 then [(gb_ 21, .cells #[bif fl_ 24 then .int .i64 ((vg a0.regs a1.B).n) else .int .i64 0, bif fl_ 24 then .int .u64 ((vg a0.regs a1.B).hang) else .int .u64 0] 55 (0, 0))] else [], bif fl_ 22 then [(gb_ 22, .cells #[.int .i64 0, .int .u64 0] 55 (0, 0))] else []] := hj_31
   refine s_call (.cons (tm rfl rfl) (.cons (tm rfl rfl) .nil)) Try.call34 (thread_thread_or.calls a0 b_1 A_2 c_3 A_5 c_6 cs_8 cs_10 A_12 c_13 X_15 a1.A r_37 _ _ (Hp.offCov hp_34 [[(b_1, .cells (([.slice A_2 a0.code.length c_3, .int .i64 a0.locs, .int .i64 a0.base, .slice A_5 a0.answers.length c_6] : List Value) ++ (cs_8 ++ (([] : List Value) ++ (cs_10 ++ ([.bool a0.less, .bool a0.same, .int .u64 a0.held, .int .u64 a0.ctrl, .int .u64 a0.fenced, .int .i64 a0.hold, .int .i64 a0.event, .slice A_12 a0.out.length c_13] : List Value))))).toArray 59 (0, 0))], X_15] [[(b_16, .cells #[.int .i64 a1.Op, .int .i64 a1.T, .int .i64 a1.A, .int .i64 a1.B, .int .i64 a1.Imm] 44 (0, 0))], (bif fl_ 20 then [(gb_ 20, .cells #[bif fl_ 23 then .int .i64 ((vg a0.regs a1.A).n) else .int .i64 0, bif fl_ 23 then .int .u64 ((vg a0.regs a1.A).hang) else .int .u64 0] 55 (0, 0))] else []), (bif fl_ 21 then [(gb_ 21, .cells #[bif fl_ 24 then .int .i64 ((vg a0.regs a1.B).n) else .int .i64 0, bif fl_ 24 then .int .u64 ((vg a0.regs a1.B).hang) else .int .u64 0] 55 (0, 0))] else []), (bif fl_ 22 then [(gb_ 22, .cells #[.int .i64 0, .int .u64 0] 55 (0, 0))] else [])] rfl) (Hp.have1 hp_34 [[(b_1, .cells (([.slice A_2 a0.code.length c_3, .int .i64 a0.locs, .int .i64 a0.base, .slice A_5 a0.answers.length c_6] : List Value) ++ (cs_8 ++ (([] : List Value) ++ (cs_10 ++ ([.bool a0.less, .bool a0.same, .int .u64 a0.held, .int .u64 a0.ctrl, .int .u64 a0.fenced, .int .i64 a0.hold, .int .i64 a0.event, .slice A_12 a0.out.length c_13] : List Value))))).toArray 59 (0, 0))], X_15] _ rfl) (RdS.pass q_4 hp_34) (RdS.pass q_7 hp_34) q_9 q_11 q_14 hx_36) rfl ?_
   rintro v_ w_38 ⟨rfl, af_41⟩
   have hp_39 := Hp.callA af_41 hp_34
   refine k_nil ?_
   refine ⟨_, 0, [], rfl, ?_, rfl⟩
   exact Hp.cong (hp_39) (by first | (simp only [upd, updb, updx, t_33]; done) | (simp only [upd, updb, updx, t_33]; kernel_rfl) | kernel_rfl)
  refine .cons [] [] [23, 24] rfl rfl rfl (by kernel_rfl) (by kernel_rfl) (by kernel_rfl) ?_ ?_
  ·rintro σ_42 fl_ gb_ gx_ w_43 hj_44 f_45 - ⟨t_46, t_47, -⟩ -
   have hp_48 : Hp (On [[(b_1, .cells (([.slice A_2 a0.code.length c_3, .int .i64 a0.locs, .int .i64 a0.base, .slice A_5 a0.answers.length c_6] : List Value) ++ (cs_8 ++ (([] : List Value) ++ (cs_10 ++ ([.bool a0.less, .bool a0.same, .int .u64 a0.held, .int .u64 a0.ctrl, .int .u64 a0.fenced, .int .i64 a0.hold, .int .i64 a0.event, .slice A_12 a0.out.length c_13] : List Value))))).toArray 59 (0, 0))], X_15]) F w w w_43 [[(b_1, .cells (([.slice A_2 a0.code.length c_3, .int .i64 a0.locs, .int .i64 a0.base, .slice A_5 a0.answers.length c_6] : List Value) ++ (cs_8 ++ (([] : List Value) ++ (cs_10 ++ ([.bool a0.less, .bool a0.same, .int .u64 a0.held, .int .u64 a0.ctrl, .int .u64 a0.fenced, .int .i64 a0.hold, .int .i64 a0.event, .slice A_12 a0.out.length c_13] : List Value))))).toArray 59 (0, 0))], X_15, [(b_16, .cells #[.int .i64 a1.Op, .int .i64 a1.T, .int .i64 a1.A, .int .i64 a1.B, .int .i64 a1.Imm] 44 (0, 0))], bif fl_ 20 then [(gb_ 20, .cells #[bif fl_ 23 then .int .i64 ((vg a0.regs a1.A).n) else .int .i64 0, bif fl_ 23 then .int .u64 ((vg a0.regs a1.A).hang) else .int .u64 0] 55 (0, 0))] else [], bif fl_ 21 then [(gb_ 21, .cells #[bif fl_ 24 then .int .i64 ((vg a0.regs a1.B).n) else .int .i64 0, bif fl_ 24 then .int .u64 ((vg a0.regs a1.B).hang) else .int .u64 0] 55 (0, 0))] else [], bif fl_ 22 then [(gb_ 22, .cells #[.int .i64 0, .int .u64 0] 55 (0, 0))] else []] := hj_44
   refine s_alloc (zv := .agg #[.int .i64 0, .int .u64 0]) (l := [.int .i64 0, .int .u64 0]) hp_48 (by intro w_; kernel_rfl) rfl rfl (fun b_49 w_50 hp_51 => ?_)
   refine k_nil ?_
   refine ⟨_, b_49, [], rfl, ?_, rfl⟩
   exact Hp.cong (hp_51.pick [0, 1, 2, 6, 4, 5] (by decide) rfl) (by first | (simp only [upd, updb, updx, t_46, t_47]; done) | (simp only [upd, updb, updx, t_46, t_47]; kernel_rfl) | kernel_rfl)
  refine .cons [] [] [23, 24] rfl rfl rfl (by kernel_rfl) (by kernel_rfl) (by kernel_rfl) ?_ ?_
  ·rintro σ_52 fl_ gb_ gx_ w_53 hj_54 f_55 - ⟨t_56, t_57, -⟩ -
   have hp_58 : Hp (On [[(b_1, .cells (([.slice A_2 a0.code.length c_3, .int .i64 a0.locs, .int .i64 a0.base, .slice A_5 a0.answers.length c_6] : List Value) ++ (cs_8 ++ (([] : List Value) ++ (cs_10 ++ ([.bool a0.less, .bool a0.same, .int .u64 a0.held, .int .u64 a0.ctrl, .int .u64 a0.fenced, .int .i64 a0.hold, .int .i64 a0.event, .slice A_12 a0.out.length c_13] : List Value))))).toArray 59 (0, 0))], X_15]) F w w w_53 [[(b_1, .cells (([.slice A_2 a0.code.length c_3, .int .i64 a0.locs, .int .i64 a0.base, .slice A_5 a0.answers.length c_6] : List Value) ++ (cs_8 ++ (([] : List Value) ++ (cs_10 ++ ([.bool a0.less, .bool a0.same, .int .u64 a0.held, .int .u64 a0.ctrl, .int .u64 a0.fenced, .int .i64 a0.hold, .int .i64 a0.event, .slice A_12 a0.out.length c_13] : List Value))))).toArray 59 (0, 0))], X_15, [(b_16, .cells #[.int .i64 a1.Op, .int .i64 a1.T, .int .i64 a1.A, .int .i64 a1.B, .int .i64 a1.Imm] 44 (0, 0))], bif fl_ 20 then [(gb_ 20, .cells #[bif fl_ 23 then .int .i64 ((vg a0.regs a1.A).n) else .int .i64 0, bif fl_ 23 then .int .u64 ((vg a0.regs a1.A).hang) else .int .u64 0] 55 (0, 0))] else [], bif fl_ 21 then [(gb_ 21, .cells #[bif fl_ 24 then .int .i64 ((vg a0.regs a1.B).n) else .int .i64 0, bif fl_ 24 then .int .u64 ((vg a0.regs a1.B).hang) else .int .u64 0] 55 (0, 0))] else [], bif fl_ 22 then [(gb_ 22, .cells #[.int .i64 0, .int .u64 0] 55 (0, 0))] else []] := hj_54
   refine s_alloc (zv := .agg #[.int .i64 0, .int .u64 0]) (l := [.int .i64 0, .int .u64 0]) hp_58 (by intro w_; kernel_rfl) rfl rfl (fun b_59 w_60 hp_61 => ?_)
   refine k_nil ?_
   refine ⟨_, b_59, [], rfl, ?_, rfl⟩
   exact Hp.cong (hp_61.pick [0, 1, 2, 3, 6, 5] (by decide) rfl) (by first | (simp only [upd, updb, updx, t_56, t_57]; done) | (simp only [upd, updb, updx, t_56, t_57]; kernel_rfl) | kernel_rfl)
  refine .cons [] [] [23, 24] rfl rfl rfl (by kernel_rfl) (by kernel_rfl) (by kernel_rfl) ?_ ?_
  ·rintro σ_62 fl_ gb_ gx_ w_63 hj_64 f_65 - ⟨t_66, t_67, -⟩ -
   have hp_68 : Hp (On [[(b_1, .cells (([.slice A_2 a0.code.length c_3, .int .i64 a0.locs, .int .i64 a0.base, .slice A_5 a0.answers.length c_6] : List Value) ++ (cs_8 ++ (([] : List Value) ++ (cs_10 ++ ([.bool a0.less, .bool a0.same, .int .u64 a0.held, .int .u64 a0.ctrl, .int .u64 a0.fenced, .int .i64 a0.hold, .int .i64 a0.event, .slice A_12 a0.out.length c_13] : List Value))))).toArray 59 (0, 0))], X_15]) F w w w_63 [[(b_1, .cells (([.slice A_2 a0.code.length c_3, .int .i64 a0.locs, .int .i64 a0.base, .slice A_5 a0.answers.length c_6] : List Value) ++ (cs_8 ++ (([] : List Value) ++ (cs_10 ++ ([.bool a0.less, .bool a0.same, .int .u64 a0.held, .int .u64 a0.ctrl, .int .u64 a0.fenced, .int .i64 a0.hold, .int .i64 a0.event, .slice A_12 a0.out.length c_13] : List Value))))).toArray 59 (0, 0))], X_15, [(b_16, .cells #[.int .i64 a1.Op, .int .i64 a1.T, .int .i64 a1.A, .int .i64 a1.B, .int .i64 a1.Imm] 44 (0, 0))], bif fl_ 20 then [(gb_ 20, .cells #[bif fl_ 23 then .int .i64 ((vg a0.regs a1.A).n) else .int .i64 0, bif fl_ 23 then .int .u64 ((vg a0.regs a1.A).hang) else .int .u64 0] 55 (0, 0))] else [], bif fl_ 21 then [(gb_ 21, .cells #[bif fl_ 24 then .int .i64 ((vg a0.regs a1.B).n) else .int .i64 0, bif fl_ 24 then .int .u64 ((vg a0.regs a1.B).hang) else .int .u64 0] 55 (0, 0))] else [], bif fl_ 22 then [(gb_ 22, .cells #[.int .i64 0, .int .u64 0] 55 (0, 0))] else []] := hj_64
   refine s_alloc (zv := .agg #[.int .i64 0, .int .u64 0]) (l := [.int .i64 0, .int .u64 0]) hp_68 (by intro w_; kernel_rfl) rfl rfl (fun b_69 w_70 hp_71 => ?_)
   refine k_nil ?_
   refine ⟨_, b_69, [], rfl, ?_, rfl⟩
   exact Hp.cong (hp_71.pick [0, 1, 2, 3, 4, 6] (by decide) rfl) (by first | (simp only [upd, updb, updx, t_66, t_67]; done) | (simp only [upd, updb, updx, t_66, t_67]; kernel_rfl) | kernel_rfl)
  refine .cons [20] [20, 21, 22] [24] rfl rfl rfl (by kernel_rfl) (by kernel_rfl) (by kernel_rfl) ?_ ?_
  ·rintro σ_72 fl_ gb_ gx_ w_73 hj_74 f_75 ⟨t_76, t_77, t_78, -⟩ ⟨t_79, -⟩ ⟨f_80, -⟩
   have hp_81 : Hp (On [[(b_1, .cells (([.slice A_2 a0.code.length c_3, .int .i64 a0.locs, .int .i64 a0.base, .slice A_5 a0.answers.length c_6] : List Value) ++ (cs_8 ++ (([] : List Value) ++ (cs_10 ++ ([.bool a0.less, .bool a0.same, .int .u64 a0.held, .int .u64 a0.ctrl, .int .u64 a0.fenced, .int .i64 a0.hold, .int .i64 a0.event, .slice A_12 a0.out.length c_13] : List Value))))).toArray 59 (0, 0))], X_15]) F w w w_73 [[(b_1, .cells (([.slice A_2 a0.code.length c_3, .int .i64 a0.locs, .int .i64 a0.base, .slice A_5 a0.answers.length c_6] : List Value) ++ (cs_8 ++ (([] : List Value) ++ (cs_10 ++ ([.bool a0.less, .bool a0.same, .int .u64 a0.held, .int .u64 a0.ctrl, .int .u64 a0.fenced, .int .i64 a0.hold, .int .i64 a0.event, .slice A_12 a0.out.length c_13] : List Value))))).toArray 59 (0, 0))], X_15, [(b_16, .cells #[.int .i64 a1.Op, .int .i64 a1.T, .int .i64 a1.A, .int .i64 a1.B, .int .i64 a1.Imm] 44 (0, 0))], [(gb_ 20, .cells #[bif fl_ 23 then .int .i64 ((vg a0.regs a1.A).n) else .int .i64 0, bif fl_ 23 then .int .u64 ((vg a0.regs a1.A).hang) else .int .u64 0] 55 (0, 0))], [(gb_ 21, .cells #[.int .i64 0, .int .u64 0] 55 (0, 0))], [(gb_ 22, .cells #[.int .i64 0, .int .u64 0] 55 (0, 0))]] := Hp.cong (R := [[(b_1, .cells (([.slice A_2 a0.code.length c_3, .int .i64 a0.locs, .int .i64 a0.base, .slice A_5 a0.answers.length c_6] : List Value) ++ (cs_8 ++ (([] : List Value) ++ (cs_10 ++ ([.bool a0.less, .bool a0.same, .int .u64 a0.held, .int .u64 a0.ctrl, .int .u64 a0.fenced, .int .i64 a0.hold, .int .i64 a0.event, .slice A_12 a0.out.length c_13] : List Value))))).toArray 59 (0, 0))], X_15, [(b_16, .cells #[.int .i64 a1.Op, .int .i64 a1.T, .int .i64 a1.A, .int .i64 a1.B, .int .i64 a1.Imm] 44 (0, 0))], bif fl_ 20 then [(gb_ 20, .cells #[bif fl_ 23 then .int .i64 ((vg a0.regs a1.A).n) else .int .i64 0, bif fl_ 23 then .int .u64 ((vg a0.regs a1.A).hang) else .int .u64 0] 55 (0, 0))] else [], bif fl_ 21 then [(gb_ 21, .cells #[bif fl_ 24 then .int .i64 ((vg a0.regs a1.B).n) else .int .i64 0, bif fl_ 24 then .int .u64 ((vg a0.regs a1.B).hang) else .int .u64 0] 55 (0, 0))] else [], bif fl_ 22 then [(gb_ 22, .cells #[.int .i64 0, .int .u64 0] 55 (0, 0))] else []]) hj_74 (by simp only [t_76, t_77, t_78, t_79, cond_true, cond_false])
   refine s_store (i := 3) (j := 0) (vs := [.int .i64 ((vg a0.regs a1.A).n), .int .u64 ((vg a0.regs a1.A).hang)]) (l' := [.int .i64 ((vg a0.regs a1.A).n), .int .u64 ((vg a0.regs a1.A).hang)]) hp_81 (tm rfl f_80) (tm rfl rfl) rfl Try.sizeOf55 rfl rfl rfl rfl rfl rfl (fun w_82 hp_83 => ?_)
   refine k_nil ?_
   refine ⟨undef, 0, [], rfl, ?_, trivial⟩
   exact Hp.cong (hp_83) (by first | (simp only [upd, updb, updx, t_76, t_77, t_78, t_79]; done) | (simp only [upd, updb, updx, t_76, t_77, t_78, t_79]; kernel_rfl) | kernel_rfl)
  refine .cons [21] [20, 21, 22, 23] [] rfl rfl rfl (by kernel_rfl) (by kernel_rfl) (by kernel_rfl) ?_ ?_
  ·rintro σ_84 fl_ gb_ gx_ w_85 hj_86 f_87 ⟨t_88, t_89, t_90, t_91, -⟩ - ⟨f_92, -⟩
   have hp_93 : Hp (On [[(b_1, .cells (([.slice A_2 a0.code.length c_3, .int .i64 a0.locs, .int .i64 a0.base, .slice A_5 a0.answers.length c_6] : List Value) ++ (cs_8 ++ (([] : List Value) ++ (cs_10 ++ ([.bool a0.less, .bool a0.same, .int .u64 a0.held, .int .u64 a0.ctrl, .int .u64 a0.fenced, .int .i64 a0.hold, .int .i64 a0.event, .slice A_12 a0.out.length c_13] : List Value))))).toArray 59 (0, 0))], X_15]) F w w w_85 [[(b_1, .cells (([.slice A_2 a0.code.length c_3, .int .i64 a0.locs, .int .i64 a0.base, .slice A_5 a0.answers.length c_6] : List Value) ++ (cs_8 ++ (([] : List Value) ++ (cs_10 ++ ([.bool a0.less, .bool a0.same, .int .u64 a0.held, .int .u64 a0.ctrl, .int .u64 a0.fenced, .int .i64 a0.hold, .int .i64 a0.event, .slice A_12 a0.out.length c_13] : List Value))))).toArray 59 (0, 0))], X_15, [(b_16, .cells #[.int .i64 a1.Op, .int .i64 a1.T, .int .i64 a1.A, .int .i64 a1.B, .int .i64 a1.Imm] 44 (0, 0))], [(gb_ 20, .cells #[.int .i64 ((vg a0.regs a1.A).n), .int .u64 ((vg a0.regs a1.A).hang)] 55 (0, 0))], [(gb_ 21, .cells #[bif fl_ 24 then .int .i64 ((vg a0.regs a1.B).n) else .int .i64 0, bif fl_ 24 then .int .u64 ((vg a0.regs a1.B).hang) else .int .u64 0] 55 (0, 0))], [(gb_ 22, .cells #[.int .i64 0, .int .u64 0] 55 (0, 0))]] := Hp.cong (R := [[(b_1, .cells (([.slice A_2 a0.code.length c_3, .int .i64 a0.locs, .int .i64 a0.base, .slice A_5 a0.answers.length c_6] : List Value) ++ (cs_8 ++ (([] : List Value) ++ (cs_10 ++ ([.bool a0.less, .bool a0.same, .int .u64 a0.held, .int .u64 a0.ctrl, .int .u64 a0.fenced, .int .i64 a0.hold, .int .i64 a0.event, .slice A_12 a0.out.length c_13] : List Value))))).toArray 59 (0, 0))], X_15, [(b_16, .cells #[.int .i64 a1.Op, .int .i64 a1.T, .int .i64 a1.A, .int .i64 a1.B, .int .i64 a1.Imm] 44 (0, 0))], bif fl_ 20 then [(gb_ 20, .cells #[bif fl_ 23 then .int .i64 ((vg a0.regs a1.A).n) else .int .i64 0, bif fl_ 23 then .int .u64 ((vg a0.regs a1.A).hang) else .int .u64 0] 55 (0, 0))] else [], bif fl_ 21 then [(gb_ 21, .cells #[bif fl_ 24 then .int .i64 ((vg a0.regs a1.B).n) else .int .i64 0, bif fl_ 24 then .int .u64 ((vg a0.regs a1.B).hang) else .int .u64 0] 55 (0, 0))] else [], bif fl_ 22 then [(gb_ 22, .cells #[.int .i64 0, .int .u64 0] 55 (0, 0))] else []]) hj_86 (by simp only [t_88, t_89, t_90, t_91, cond_true, cond_false])
   refine s_store (i := 4) (j := 0) (vs := [.int .i64 ((vg a0.regs a1.B).n), .int .u64 ((vg a0.regs a1.B).hang)]) (l' := [.int .i64 ((vg a0.regs a1.B).n), .int .u64 ((vg a0.regs a1.B).hang)]) hp_93 (tm rfl f_92) (tm rfl rfl) rfl Try.sizeOf55 rfl rfl rfl rfl rfl rfl (fun w_94 hp_95 => ?_)
   refine k_nil ?_
   refine ⟨undef, 0, [], rfl, ?_, trivial⟩
   exact Hp.cong (hp_95) (by first | (simp only [upd, updb, updx, t_88, t_89, t_90, t_91]; done) | (simp only [upd, updb, updx, t_88, t_89, t_90, t_91]; kernel_rfl) | kernel_rfl)
  exact .nil
 rintro σ_96 gb_100 gx_101 w_97 hj_98 ⟨f_105, f_106, f_107, f_108, -, -, -⟩
 have hp_99 := Hp.cong (R' := [[(b_1, .cells (([.slice A_2 a0.code.length c_3, .int .i64 a0.locs, .int .i64 a0.base, .slice A_5 a0.answers.length c_6] : List Value) ++ (cs_8 ++ (([] : List Value) ++ (cs_10 ++ ([.bool a0.less, .bool a0.same, .int .u64 a0.held, .int .u64 a0.ctrl, .int .u64 a0.fenced, .int .i64 a0.hold, .int .i64 a0.event, .slice A_12 a0.out.length c_13] : List Value))))).toArray 59 (0, 0))], X_15, [(b_16, .cells #[.int .i64 a1.Op, .int .i64 a1.T, .int .i64 a1.A, .int .i64 a1.B, .int .i64 a1.Imm] 44 (0, 0))], [(gb_100 20, .cells #[.int .i64 ((vg a0.regs a1.A).n), .int .u64 ((vg a0.regs a1.A).hang)] 55 (0, 0))], [(gb_100 21, .cells #[.int .i64 ((vg a0.regs a1.B).n), .int .u64 ((vg a0.regs a1.B).hang)] 55 (0, 0))], [(gb_100 22, .cells #[.int .i64 0, .int .u64 0] 55 (0, 0))]]) hj_98 (by kernel_rfl)
 refine seenW [(26, .agg #[.int .i64 r_37.n, .int .u64 r_37.hang]), (5, .pointer (some ⟨(gb_100 20), 0, none⟩)), (6, .pointer (some ⟨(gb_100 21), 0, none⟩)), (7, .pointer (some ⟨(gb_100 22), 0, none⟩)), (0, .pointer (some ⟨b_1, 0, none⟩)), (3, .pointer (some ⟨b_16, 0, none⟩)), (15, .agg #[.int .i64 ((vg a0.regs a1.A).n), .int .u64 ((vg a0.regs a1.A).hang)]), (22, .agg #[.int .i64 ((vg a0.regs a1.B).n), .int .u64 ((vg a0.regs a1.B).hang)]), (23, .pointer (some ⟨b_1, 0, none⟩)), (25, .int .i64 a1.A), (28, .int .i64 a1.Imm)] ?_ ?_
 ·exact ⟨f_105, f_106, f_107, f_108, rfl, rfl, rfl, rfl, rfl, rfl, rfl, trivial⟩
 refine w_one (m' := 67108863) 25 rfl (by kernel_rfl) (by kernel_rfl) ?_
 refine s_store (i := 5) (j := 0) (vs := [.int .i64 r_37.n, .int .u64 r_37.hang]) (l' := [.int .i64 r_37.n, .int .u64 r_37.hang]) hp_99 (tm rfl rfl) (tm rfl rfl) rfl Try.sizeOf55 rfl rfl rfl rfl rfl rfl (fun w_109 hp_110 => ?_)
 refine k_nil ?_
 refine ⟨(Wp.of hp_110 [0, 1, 2] rfl), ?_⟩
 refine w_take (m' := 134217727) (v := .int .i64 a1.Imm) 26 rfl rfl (by kernel_rfl) (by kernel_rfl) (by kernel_rfl) (by kernel_rfl) (by kernel_rfl) (by kernel_rfl) (by kernel_rfl) (po_then po_body) (Wp.of hp_110 [0, 1, 2] rfl) (y_val (fun w_ hW_ => e_assign (tm rfl rfl))) ?_
 refine w_done (by kernel_rfl) ?_
 refine k_seq ?_
 refine kq tb hp_110 [(3, 2, 0)] [(30, .int .i64 a1.Op)] (by kernel_rfl) fun σ => ?_
 obtain ⟨o_111, H, G_112⟩ := bindSome H
 refine k_cut (fun a w' => ∃ (s_113 : thread_thread) (σ_661 : Nat → Value) (A_666 : Option Addr) (c_667 : Nat) (cs_669 : List Value) (cs_671 : List Value) (A_673 : Option Addr) (c_674 : Nat) (X_676 : Rsc), o_111 = Sum.inl s_113 ∧ a = st 316 [] σ_661 [] ∧ Hp (On [[(b_1, .cells (([.slice A_2 a0.code.length c_3, .int .i64 a0.locs, .int .i64 a0.base, .slice A_5 a0.answers.length c_6] : List Value) ++ (cs_8 ++ (([] : List Value) ++ (cs_10 ++ ([.bool a0.less, .bool a0.same, .int .u64 a0.held, .int .u64 a0.ctrl, .int .u64 a0.fenced, .int .i64 a0.hold, .int .i64 a0.event, .slice A_12 a0.out.length c_13] : List Value))))).toArray 59 (0, 0))], X_15]) F w w w' [[(b_1, .cells (([.slice A_2 s_113.code.length c_3, .int .i64 s_113.locs, .int .i64 s_113.base, .slice A_666 s_113.answers.length c_667] : List Value) ++ (cs_669 ++ (([] : List Value) ++ (cs_671 ++ ([.bool s_113.less, .bool s_113.same, .int .u64 s_113.held, .int .u64 s_113.ctrl, .int .u64 s_113.fenced, .int .i64 s_113.hold, .int .i64 s_113.event, .slice A_673 s_113.out.length c_674] : List Value))))).toArray 59 (0, 0))], X_676] ∧ RdS api_Inst_E F w A_2 c_3 s_113.code ∧ RdS (intE .i64) F w A_666 c_667 s_113.answers ∧ Reps thread_cell_E no wz s_113.regs.toList cs_669 ∧ Reps thread_cell_E no wz s_113.stack.toList cs_671 ∧ Own api_Event_E no wz 33 A_673 c_674 s_113.out X_676) ?_ ?_
 ·as_aux_lemma =>
  refine k_block ?_
  refine kq tb hp_110 [] [(31, .bool (decide (a1.Op = 1)))] (by kernel_rfl) fun σ => ?_
  refine k_if (tm rfl rfl) (fun h_114 => ?_) (fun h_114 => ?_)
  ·have H := ift h_114 H
   refine k_anyF [[0, 1, 2, 3, 4, 5], [0, 1, 2, 3, 4, 5], [0, 1, 2, 3, 4, 5], [0, 1, 2, 3, 4, 5], [0, 1, 2, 3, 4, 5], [0, 1, 2, 3, 4, 5], [0, 1, 2, 3, 4, 5], [0, 1, 2, 3, 4, 5], [0, 1, 2, 3, 4, 5], [0, 1, 2, 3, 4, 5], [0, 1, 2, 3, 4, 5], [0, 1, 2, 3, 4, 5], [0, 1, 2, 3, 4, 5], [1, 2, 3, 4, 5]] [0, 0, 2, 0, 8, 0, 56, 0, 128, 504, 1, 1025, 4095, 8191] mixed hp_110 14 (by kernel_rfl) (fun w_115 hp_116 => ?_)
   obtain ⟨g_117, H⟩ := grd H
   obtain ⟨cs_119, rp_118, q_120⟩ := arr_elem q_9 g_117
   obtain rfl : cs_119 = [.int .i64 ((vg a0.regs a1.T).n), .int .u64 ((vg a0.regs a1.T).hang)] := rp_118
   refine w_takes (f := 1) tb [0, 1, 2, 3, 4, 5] (Wp.of hp_116 [0, 1, 2, 3, 4, 5] rfl) [⟨_, _, [0], fun w h => arr_at (pre := ([.slice A_2 a0.code.length c_3, .int .i64 a0.locs, .int .i64 a0.base, .slice A_5 a0.answers.length c_6] : List Value)) (post := ([] : List Value) ++ (cs_10 ++ ([.bool a0.less, .bool a0.same, .int .u64 a0.held, .int .u64 a0.ctrl, .int .u64 a0.fenced, .int .i64 a0.hold, .int .i64 a0.event, .slice A_12 a0.out.length c_13] : List Value))) (h.get (i := 0) (j := 0) rfl rfl) rfl rfl q_120⟩] [.a 45 6 b_1 4 _ _ g_117] [] [(0, 0, 0), (3, 2, 0), (7, 5, 0)] [] [0, 1, 3, 5, 7, 10, 11, 2, 4, 6, 8, 9, 12] 8191 [(42, .agg #[.int .i64 (wrap64 (r_37.n + a1.Imm)), .int .u64 r_37.hang]), (45, .pointer (some ⟨b_1, 4 + (a1.T : Int).toNat * 2, none⟩))] (fun _ => (po_then (po_x po_body))) rfl rfl (by kernel_rfl) fun σ => ?_
   refine w_one (m' := 16383) 13 rfl (by kernel_rfl) (by kernel_rfl) ?_
   refine s_storeA (E := thread_cell_E) (i := a1.T) (inn := 0) (r := 0) (el := (⟨wrap64 (r_37.n + a1.Imm), r_37.hang⟩ : thread_cell)) (vs := [.int .i64 (wrap64 (r_37.n + a1.Imm)), .int .u64 r_37.hang]) (pre := ([.slice A_2 a0.code.length c_3, .int .i64 a0.locs, .int .i64 a0.base, .slice A_5 a0.answers.length c_6] : List Value)) (post := ([] : List Value) ++ (cs_10 ++ ([.bool a0.less, .bool a0.same, .int .u64 a0.held, .int .u64 a0.ctrl, .int .u64 a0.fenced, .int .i64 a0.hold, .int .i64 a0.event, .slice A_12 a0.out.length c_13] : List Value))) (fun q_ => (([.slice A_2 a0.code.length c_3, .int .i64 a0.locs, .int .i64 a0.base, .slice A_5 a0.answers.length c_6] : List Value) ++ (q_ ++ (([] : List Value) ++ (cs_10 ++ ([.bool a0.less, .bool a0.same, .int .u64 a0.held, .int .u64 a0.ctrl, .int .u64 a0.fenced, .int .i64 a0.hold, .int .i64 a0.event, .slice A_12 a0.out.length c_13] : List Value)))))) hp_116 (tm rfl rfl) (tm rfl rfl) rfl Try.sizeOf55 rfl rfl rfl rfl (fun _ => rfl) rfl q_9 g_117 rfl q_120 rfl (fun w_121 cs_123 hp_122 q_124 => ?_)
   refine k_nil ?_
   refine ⟨(Wp.of hp_122 [1, 2, 3, 4, 5] rfl), ?_⟩
   refine w_done (by kernel_rfl) ?_
   obtain rfl := Option.some.inj H
   exact ⟨{ a0 with regs := (vp a0.regs a1.T (⟨wrap64 (r_37.n + a1.Imm), r_37.hang⟩ : thread_cell)) }, _, A_5, c_6, cs_123, cs_10, A_12, c_13, X_15, rfl, seenF trivial, hp_122.pick [0, 1] (by decide) rfl, q_4, q_7, q_124, q_11, q_14⟩
  have H := iff_ h_114 H
  refine kq tb hp_110 [] [(46, .bool (decide (a1.Op = 2)))] (by kernel_rfl) fun σ => ?_
  refine k_if (tm rfl rfl) (fun h_125 => ?_) (fun h_125 => ?_)
  ·have H := ift h_125 H
   refine k_anyF [[0, 1, 2, 3, 4, 5], [0, 1, 2, 3, 4, 5], [0, 1, 2, 3, 4, 5], [0, 1, 2, 3, 4, 5], [0, 1, 2, 3, 4, 5], [0, 1, 2, 3, 4, 5], [0, 1, 2, 3, 4, 5], [0, 1, 2, 3, 4, 5], [0, 1, 2, 3, 4, 5], [0, 1, 2, 3, 4, 5], [0, 1, 2, 3, 4, 5], [0, 1, 2, 3, 4, 5], [0, 1, 2, 3, 4, 5], [0, 1, 2, 3, 4, 5], [1, 2, 3, 4, 5]] [0, 0, 2, 0, 8, 0, 32, 120, 0, 256, 1016, 1, 2049, 8191, 16383] mixed hp_110 15 (by kernel_rfl) (fun w_126 hp_127 => ?_)
   obtain ⟨g_128, H⟩ := grd H
   obtain ⟨cs_130, rp_129, q_131⟩ := arr_elem q_9 g_128
   obtain rfl : cs_130 = [.int .i64 ((vg a0.regs a1.T).n), .int .u64 ((vg a0.regs a1.T).hang)] := rp_129
   refine w_takes (f := 1) tb [0, 1, 2, 3, 4, 5] (Wp.of hp_127 [0, 1, 2, 3, 4, 5] rfl) [⟨_, _, [0], fun w h => arr_at (pre := ([.slice A_2 a0.code.length c_3, .int .i64 a0.locs, .int .i64 a0.base, .slice A_5 a0.answers.length c_6] : List Value)) (post := ([] : List Value) ++ (cs_10 ++ ([.bool a0.less, .bool a0.same, .int .u64 a0.held, .int .u64 a0.ctrl, .int .u64 a0.fenced, .int .i64 a0.hold, .int .i64 a0.event, .slice A_12 a0.out.length c_13] : List Value))) (h.get (i := 0) (j := 0) rfl rfl) rfl rfl q_131⟩] [.a 61 6 b_1 4 _ _ g_128] [] [(0, 0, 0), (3, 2, 0), (7, 5, 0)] [] [0, 1, 3, 5, 6, 8, 11, 12, 2, 4, 7, 9, 10, 13] 16383 [(58, .agg #[.int .i64 (wrap64 (r_37.n + (wrap64 (a1.Imm * 65536)))), .int .u64 r_37.hang]), (61, .pointer (some ⟨b_1, 4 + (a1.T : Int).toNat * 2, none⟩))] (fun _ => (po_then (po_x po_body))) rfl rfl (by kernel_rfl) fun σ => ?_
   refine w_one (m' := 32767) 14 rfl (by kernel_rfl) (by kernel_rfl) ?_
   refine s_storeA (E := thread_cell_E) (i := a1.T) (inn := 0) (r := 0) (el := (⟨wrap64 (r_37.n + (wrap64 (a1.Imm * 65536))), r_37.hang⟩ : thread_cell)) (vs := [.int .i64 (wrap64 (r_37.n + (wrap64 (a1.Imm * 65536)))), .int .u64 r_37.hang]) (pre := ([.slice A_2 a0.code.length c_3, .int .i64 a0.locs, .int .i64 a0.base, .slice A_5 a0.answers.length c_6] : List Value)) (post := ([] : List Value) ++ (cs_10 ++ ([.bool a0.less, .bool a0.same, .int .u64 a0.held, .int .u64 a0.ctrl, .int .u64 a0.fenced, .int .i64 a0.hold, .int .i64 a0.event, .slice A_12 a0.out.length c_13] : List Value))) (fun q_ => (([.slice A_2 a0.code.length c_3, .int .i64 a0.locs, .int .i64 a0.base, .slice A_5 a0.answers.length c_6] : List Value) ++ (q_ ++ (([] : List Value) ++ (cs_10 ++ ([.bool a0.less, .bool a0.same, .int .u64 a0.held, .int .u64 a0.ctrl, .int .u64 a0.fenced, .int .i64 a0.hold, .int .i64 a0.event, .slice A_12 a0.out.length c_13] : List Value)))))) hp_127 (tm rfl rfl) (tm rfl rfl) rfl Try.sizeOf55 rfl rfl rfl rfl (fun _ => rfl) rfl q_9 g_128 rfl q_131 rfl (fun w_132 cs_134 hp_133 q_135 => ?_)
   refine k_nil ?_
   refine ⟨(Wp.of hp_133 [1, 2, 3, 4, 5] rfl), ?_⟩
   refine w_done (by kernel_rfl) ?_
   obtain rfl := Option.some.inj H
   exact ⟨{ a0 with regs := (vp a0.regs a1.T (⟨wrap64 (r_37.n + (wrap64 (a1.Imm * 65536))), r_37.hang⟩ : thread_cell)) }, _, A_5, c_6, cs_134, cs_10, A_12, c_13, X_15, rfl, seenF trivial, hp_133.pick [0, 1] (by decide) rfl, q_4, q_7, q_135, q_11, q_14⟩
  have H := iff_ h_125 H
  refine kq tb hp_110 [] [(62, .bool (decide (a1.Op = 3)))] (by kernel_rfl) fun σ => ?_
  refine k_if (tm rfl rfl) (fun h_136 => ?_) (fun h_136 => ?_)
  ·have H := ift h_136 H
   refine k_anyF [[0, 1, 2, 3, 4, 5], [0, 1, 2, 3, 4, 5], [0, 1, 2, 3, 4, 5], [0, 1, 2, 3, 4, 5], [0, 1, 2, 3, 4, 5], [0, 1, 2, 3, 4, 5], [0, 1, 2, 3, 4, 5], [0, 1, 2, 3, 4, 5], [0, 1, 2, 3, 4, 5], [0, 1, 2, 3, 4, 5], [0, 1, 2, 3, 4, 5], [0, 1, 2, 3, 4, 5], [0, 1, 2, 3, 4, 5], [1, 2, 3, 4, 5]] [0, 0, 2, 0, 8, 0, 56, 0, 128, 504, 1, 1025, 4095, 8191] mixed hp_110 14 (by kernel_rfl) (fun w_137 hp_138 => ?_)
   obtain ⟨g_139, H⟩ := grd H
   obtain ⟨cs_141, rp_140, q_142⟩ := arr_elem q_9 g_139
   obtain rfl : cs_141 = [.int .i64 ((vg a0.regs a1.T).n), .int .u64 ((vg a0.regs a1.T).hang)] := rp_140
   refine w_takes (f := 1) tb [0, 1, 2, 3, 4, 5] (Wp.of hp_138 [0, 1, 2, 3, 4, 5] rfl) [⟨_, _, [0], fun w h => arr_at (pre := ([.slice A_2 a0.code.length c_3, .int .i64 a0.locs, .int .i64 a0.base, .slice A_5 a0.answers.length c_6] : List Value)) (post := ([] : List Value) ++ (cs_10 ++ ([.bool a0.less, .bool a0.same, .int .u64 a0.held, .int .u64 a0.ctrl, .int .u64 a0.fenced, .int .i64 a0.hold, .int .i64 a0.event, .slice A_12 a0.out.length c_13] : List Value))) (h.get (i := 0) (j := 0) rfl rfl) rfl rfl q_142⟩] [.a 76 6 b_1 4 _ _ g_139] [] [(0, 0, 0), (3, 2, 0), (5, 3, 0)] [] [0, 1, 3, 5, 7, 10, 11, 2, 4, 6, 8, 9, 12] 8191 [(73, .agg #[.int .i64 (bits .or .i64 ((vg a0.regs a1.A).n) a1.Imm), .int .u64 ((vg a0.regs a1.A).hang)]), (76, .pointer (some ⟨b_1, 4 + (a1.T : Int).toNat * 2, none⟩))] (fun _ => (po_then (po_x po_body))) rfl rfl (by kernel_rfl) fun σ => ?_
   refine w_one (m' := 16383) 13 rfl (by kernel_rfl) (by kernel_rfl) ?_
   refine s_storeA (E := thread_cell_E) (i := a1.T) (inn := 0) (r := 0) (el := (⟨bits .or .i64 ((vg a0.regs a1.A).n) a1.Imm, (vg a0.regs a1.A).hang⟩ : thread_cell)) (vs := [.int .i64 (bits .or .i64 ((vg a0.regs a1.A).n) a1.Imm), .int .u64 ((vg a0.regs a1.A).hang)]) (pre := ([.slice A_2 a0.code.length c_3, .int .i64 a0.locs, .int .i64 a0.base, .slice A_5 a0.answers.length c_6] : List Value)) (post := ([] : List Value) ++ (cs_10 ++ ([.bool a0.less, .bool a0.same, .int .u64 a0.held, .int .u64 a0.ctrl, .int .u64 a0.fenced, .int .i64 a0.hold, .int .i64 a0.event, .slice A_12 a0.out.length c_13] : List Value))) (fun q_ => (([.slice A_2 a0.code.length c_3, .int .i64 a0.locs, .int .i64 a0.base, .slice A_5 a0.answers.length c_6] : List Value) ++ (q_ ++ (([] : List Value) ++ (cs_10 ++ ([.bool a0.less, .bool a0.same, .int .u64 a0.held, .int .u64 a0.ctrl, .int .u64 a0.fenced, .int .i64 a0.hold, .int .i64 a0.event, .slice A_12 a0.out.length c_13] : List Value)))))) hp_138 (tm rfl rfl) (tm rfl rfl) rfl Try.sizeOf55 rfl rfl rfl rfl (fun _ => rfl) rfl q_9 g_139 rfl q_142 rfl (fun w_143 cs_145 hp_144 q_146 => ?_)
   refine k_nil ?_
   refine ⟨(Wp.of hp_144 [1, 2, 3, 4, 5] rfl), ?_⟩
   refine w_done (by kernel_rfl) ?_
   obtain rfl := Option.some.inj H
   exact ⟨{ a0 with regs := (vp a0.regs a1.T (⟨bits .or .i64 ((vg a0.regs a1.A).n) a1.Imm, (vg a0.regs a1.A).hang⟩ : thread_cell)) }, _, A_5, c_6, cs_145, cs_10, A_12, c_13, X_15, rfl, seenF trivial, hp_144.pick [0, 1] (by decide) rfl, q_4, q_7, q_146, q_11, q_14⟩
  have H := iff_ h_136 H
  refine kq tb hp_110 [] [(77, .bool (decide (a1.Op = 4)))] (by kernel_rfl) fun σ => ?_
  refine k_if (tm rfl rfl) (fun h_147 => ?_) (fun h_147 => ?_)
  ·have H := ift h_147 H
   refine k_anyF [[0, 1, 2, 3, 4, 5], [0, 1, 2, 3, 4, 5], [0, 1, 2, 3, 4, 5], [0, 1, 2, 3, 4, 5], [0, 1, 2, 3, 4, 5], [0, 1, 2, 3, 4, 5], [0, 1, 2, 3, 4, 5], [0, 1, 2, 3, 4, 5], [0, 1, 2, 3, 4, 5], [0, 1, 2, 3, 4, 5], [0, 1, 2, 3, 4, 5], [0, 1, 2, 3, 4, 5], [0, 1, 2, 3, 4, 5], [0, 1, 2, 3, 4, 5], [1, 2, 3, 4, 5]] [0, 0, 2, 0, 8, 0, 32, 120, 0, 256, 1016, 1, 2049, 8191, 16383] mixed hp_110 15 (by kernel_rfl) (fun w_148 hp_149 => ?_)
   obtain ⟨g_150, H⟩ := grd H
   obtain ⟨cs_152, rp_151, q_153⟩ := arr_elem q_9 g_150
   obtain rfl : cs_152 = [.int .i64 ((vg a0.regs a1.T).n), .int .u64 ((vg a0.regs a1.T).hang)] := rp_151
   refine w_takes (f := 1) tb [0, 1, 2, 3, 4, 5] (Wp.of hp_149 [0, 1, 2, 3, 4, 5] rfl) [⟨_, _, [0], fun w h => arr_at (pre := ([.slice A_2 a0.code.length c_3, .int .i64 a0.locs, .int .i64 a0.base, .slice A_5 a0.answers.length c_6] : List Value)) (post := ([] : List Value) ++ (cs_10 ++ ([.bool a0.less, .bool a0.same, .int .u64 a0.held, .int .u64 a0.ctrl, .int .u64 a0.fenced, .int .i64 a0.hold, .int .i64 a0.event, .slice A_12 a0.out.length c_13] : List Value))) (h.get (i := 0) (j := 0) rfl rfl) rfl rfl q_153⟩] [.a 92 6 b_1 4 _ _ g_150] [] [(0, 0, 0), (3, 2, 0), (5, 3, 0)] [] [0, 1, 3, 5, 6, 8, 11, 12, 2, 4, 7, 9, 10, 13] 16383 [(89, .agg #[.int .i64 (bits .or .i64 ((vg a0.regs a1.A).n) (wrap64 (a1.Imm * 65536))), .int .u64 ((vg a0.regs a1.A).hang)]), (92, .pointer (some ⟨b_1, 4 + (a1.T : Int).toNat * 2, none⟩))] (fun _ => (po_then (po_x po_body))) rfl rfl (by kernel_rfl) fun σ => ?_
   refine w_one (m' := 32767) 14 rfl (by kernel_rfl) (by kernel_rfl) ?_
   refine s_storeA (E := thread_cell_E) (i := a1.T) (inn := 0) (r := 0) (el := (⟨bits .or .i64 ((vg a0.regs a1.A).n) (wrap64 (a1.Imm * 65536)), (vg a0.regs a1.A).hang⟩ : thread_cell)) (vs := [.int .i64 (bits .or .i64 ((vg a0.regs a1.A).n) (wrap64 (a1.Imm * 65536))), .int .u64 ((vg a0.regs a1.A).hang)]) (pre := ([.slice A_2 a0.code.length c_3, .int .i64 a0.locs, .int .i64 a0.base, .slice A_5 a0.answers.length c_6] : List Value)) (post := ([] : List Value) ++ (cs_10 ++ ([.bool a0.less, .bool a0.same, .int .u64 a0.held, .int .u64 a0.ctrl, .int .u64 a0.fenced, .int .i64 a0.hold, .int .i64 a0.event, .slice A_12 a0.out.length c_13] : List Value))) (fun q_ => (([.slice A_2 a0.code.length c_3, .int .i64 a0.locs, .int .i64 a0.base, .slice A_5 a0.answers.length c_6] : List Value) ++ (q_ ++ (([] : List Value) ++ (cs_10 ++ ([.bool a0.less, .bool a0.same, .int .u64 a0.held, .int .u64 a0.ctrl, .int .u64 a0.fenced, .int .i64 a0.hold, .int .i64 a0.event, .slice A_12 a0.out.length c_13] : List Value)))))) hp_149 (tm rfl rfl) (tm rfl rfl) rfl Try.sizeOf55 rfl rfl rfl rfl (fun _ => rfl) rfl q_9 g_150 rfl q_153 rfl (fun w_154 cs_156 hp_155 q_157 => ?_)
   refine k_nil ?_
   refine ⟨(Wp.of hp_155 [1, 2, 3, 4, 5] rfl), ?_⟩
   refine w_done (by kernel_rfl) ?_
   obtain rfl := Option.some.inj H
   exact ⟨{ a0 with regs := (vp a0.regs a1.T (⟨bits .or .i64 ((vg a0.regs a1.A).n) (wrap64 (a1.Imm * 65536)), (vg a0.regs a1.A).hang⟩ : thread_cell)) }, _, A_5, c_6, cs_156, cs_10, A_12, c_13, X_15, rfl, seenF trivial, hp_155.pick [0, 1] (by decide) rfl, q_4, q_7, q_157, q_11, q_14⟩
  have H := iff_ h_147 H
  refine kq tb hp_110 [] [(93, .bool (decide (a1.Op = 5)))] (by kernel_rfl) fun σ => ?_
  refine k_if (tm rfl rfl) (fun h_158 => ?_) (fun h_158 => ?_)
  ·have H := ift h_158 H
   refine k_anyF [[0, 1, 2, 3, 4, 5], [0, 1, 2, 3, 4, 5], [0, 1, 2, 3, 4, 5], [0, 1, 2, 3, 4, 5], [0, 1, 2, 3, 4, 5], [0, 1, 2, 3, 4, 5], [0, 1, 2, 3, 4, 5], [0, 1, 2, 3, 4, 5], [0, 1, 2, 3, 4, 5], [0, 1, 2, 3, 4, 5], [0, 1, 2, 3, 4, 5], [0, 1, 2, 3, 4, 5], [0, 1, 2, 3, 4, 5], [0, 1, 2, 3, 4, 5], [1, 2, 3, 4, 5]] [0, 0, 2, 0, 8, 0, 32, 120, 0, 256, 1016, 1, 2049, 8191, 16383] mixed hp_110 15 (by kernel_rfl) (fun w_159 hp_160 => ?_)
   refine w_takes (f := 5) tb [0, 1, 2, 3, 4, 5] (Wp.of hp_160 [0, 1, 2, 3, 4, 5] rfl) [] [] [] [(0, 0, 0), (3, 2, 0), (5, 3, 0)] [] [0, 1, 3, 5, 6, 8, 11, 12, 2, 4] 6527 [(101, .int .u64 ((a1.Imm) % 18446744073709551616)), (103, .pointer (some ⟨(gb_100 20), 1, none⟩)), (107, .pointer (some ⟨b_1, 4, none⟩)), (97, .int .i64 a1.T), (99, .int .i64 ((vg a0.regs a1.A).n))] (fun _ => (po_then (po_x po_body))) rfl rfl (by kernel_rfl) fun σ => ?_
   refine w_take (m' := 6655) (v := .int .i64 (wrap64 (((vg a0.regs a1.A).n) * 2 ^ (min ((a1.Imm) % 18446744073709551616).toNat 64)))) 7 rfl rfl (by kernel_rfl) (by kernel_rfl) (by kernel_rfl) (by kernel_rfl) (by kernel_rfl) (by kernel_rfl) (by kernel_rfl) (po_then (po_x po_body)) (Wp.of hp_160 [0, 1, 2, 3, 4, 5] rfl) (y_val (fun w_ hW_ => e_bin (tm rfl rfl) (tm rfl rfl) (r_shl (Int.emod_nonneg _ (by decide)) (wrap_i64 _)))) ?_
   obtain ⟨g_161, H⟩ := grd H
   obtain ⟨cs_163, rp_162, q_164⟩ := arr_elem q_9 g_161
   obtain rfl : cs_163 = [.int .i64 ((vg a0.regs a1.T).n), .int .u64 ((vg a0.regs a1.T).hang)] := rp_162
   refine w_takes (f := 1) tb [0, 1, 2, 3, 4, 5] (Wp.of hp_160 [0, 1, 2, 3, 4, 5] rfl) [⟨_, _, [0], fun w h => arr_at (pre := ([.slice A_2 a0.code.length c_3, .int .i64 a0.locs, .int .i64 a0.base, .slice A_5 a0.answers.length c_6] : List Value)) (post := ([] : List Value) ++ (cs_10 ++ ([.bool a0.less, .bool a0.same, .int .u64 a0.held, .int .u64 a0.ctrl, .int .u64 a0.fenced, .int .i64 a0.hold, .int .i64 a0.event, .slice A_12 a0.out.length c_13] : List Value))) (h.get (i := 0) (j := 0) rfl rfl) rfl rfl q_164⟩] [.a 108 6 b_1 4 _ _ g_161] [] [(103, 3, 1), (107, 0, 4)] [] [9, 10, 13] 16383 [(105, .agg #[.int .i64 (wrap64 (((vg a0.regs a1.A).n) * 2 ^ (min ((a1.Imm) % 18446744073709551616).toNat 64))), .int .u64 ((vg a0.regs a1.A).hang)]), (108, .pointer (some ⟨b_1, 4 + (a1.T : Int).toNat * 2, none⟩))] (fun _ => (po_then (po_x po_body))) rfl rfl (by kernel_rfl) fun σ => ?_
   refine w_one (m' := 32767) 14 rfl (by kernel_rfl) (by kernel_rfl) ?_
   refine s_storeA (E := thread_cell_E) (i := a1.T) (inn := 0) (r := 0) (el := (⟨wrap64 (((vg a0.regs a1.A).n) * 2 ^ (min ((a1.Imm) % 18446744073709551616).toNat 64)), (vg a0.regs a1.A).hang⟩ : thread_cell)) (vs := [.int .i64 (wrap64 (((vg a0.regs a1.A).n) * 2 ^ (min ((a1.Imm) % 18446744073709551616).toNat 64))), .int .u64 ((vg a0.regs a1.A).hang)]) (pre := ([.slice A_2 a0.code.length c_3, .int .i64 a0.locs, .int .i64 a0.base, .slice A_5 a0.answers.length c_6] : List Value)) (post := ([] : List Value) ++ (cs_10 ++ ([.bool a0.less, .bool a0.same, .int .u64 a0.held, .int .u64 a0.ctrl, .int .u64 a0.fenced, .int .i64 a0.hold, .int .i64 a0.event, .slice A_12 a0.out.length c_13] : List Value))) (fun q_ => (([.slice A_2 a0.code.length c_3, .int .i64 a0.locs, .int .i64 a0.base, .slice A_5 a0.answers.length c_6] : List Value) ++ (q_ ++ (([] : List Value) ++ (cs_10 ++ ([.bool a0.less, .bool a0.same, .int .u64 a0.held, .int .u64 a0.ctrl, .int .u64 a0.fenced, .int .i64 a0.hold, .int .i64 a0.event, .slice A_12 a0.out.length c_13] : List Value)))))) hp_160 (tm rfl rfl) (tm rfl rfl) rfl Try.sizeOf55 rfl rfl rfl rfl (fun _ => rfl) rfl q_9 g_161 rfl q_164 rfl (fun w_165 cs_167 hp_166 q_168 => ?_)
   refine k_nil ?_
   refine ⟨(Wp.of hp_166 [1, 2, 3, 4, 5] rfl), ?_⟩
   refine w_done (by kernel_rfl) ?_
   obtain rfl := Option.some.inj H
   exact ⟨{ a0 with regs := (vp a0.regs a1.T (⟨wrap64 (((vg a0.regs a1.A).n) * 2 ^ (min ((a1.Imm) % 18446744073709551616).toNat 64)), (vg a0.regs a1.A).hang⟩ : thread_cell)) }, _, A_5, c_6, cs_167, cs_10, A_12, c_13, X_15, rfl, seenF trivial, hp_166.pick [0, 1] (by decide) rfl, q_4, q_7, q_168, q_11, q_14⟩
  have H := iff_ h_158 H
  refine kq tb hp_110 [] [(109, .bool (decide (a1.Op = 6)))] (by kernel_rfl) fun σ => ?_
  refine k_if (tm rfl rfl) (fun h_169 => ?_) (fun h_169 => ?_)
  ·have H := ift h_169 H
   refine k_anyF [[0, 1, 2, 3, 4, 5], [0, 1, 2, 3, 4, 5], [0, 1, 2, 3, 4, 5], [0, 1, 2, 3, 4, 5], [0, 1, 2, 3, 4, 5], [0, 1, 2, 3, 4, 5], [0, 1, 2, 3, 4, 5], [0, 1, 2, 3, 4, 5], [0, 1, 2, 3, 4, 5], [0, 1, 2, 3, 4, 5], [0, 1, 2, 3, 4, 5], [0, 1, 2, 3, 4, 5], [0, 1, 2, 3, 4, 5], [0, 1, 2, 3, 4, 5], [1, 2, 3, 4, 5]] [0, 0, 2, 0, 8, 0, 32, 120, 0, 0, 1016, 1, 2049, 8191, 16383] mixed hp_110 15 (by kernel_rfl) (fun w_170 hp_171 => ?_)
   refine w_takes (f := 3) tb [0, 1, 2, 3, 4, 5] (Wp.of hp_171 [0, 1, 2, 3, 4, 5] rfl) [] [] [] [(0, 0, 0), (3, 2, 0), (5, 3, 0), (6, 4, 0)] [] [0, 1, 3, 5, 11, 12, 2, 4, 6, 7, 8, 9] 7167 [(123, .pointer (some ⟨b_1, 4, none⟩)), (113, .int .i64 a1.T), (118, .int .i64 (wrap64 (((vg a0.regs a1.A).n) + ((vg a0.regs a1.B).n)))), (119, .agg #[.int .i64 ((vg a0.regs a1.A).n), .int .u64 ((vg a0.regs a1.A).hang)]), (120, .agg #[.int .i64 ((vg a0.regs a1.B).n), .int .u64 ((vg a0.regs a1.B).hang)])] (fun _ => (po_then (po_x po_body))) rfl rfl (by kernel_rfl) fun σ => ?_
   refine w_one (m' := 8191) 10 rfl (by kernel_rfl) (by kernel_rfl) ?_
   refine s_call (.cons (tm rfl rfl) (.cons (tm rfl rfl) (.cons (tm rfl rfl) .nil))) Try.call35 (thread_two.calls (wrap64 (((vg a0.regs a1.A).n) + ((vg a0.regs a1.B).n))) (⟨(vg a0.regs a1.A).n, (vg a0.regs a1.A).hang⟩ : thread_cell) (⟨(vg a0.regs a1.B).n, (vg a0.regs a1.B).hang⟩ : thread_cell) _) rfl ?_
   rintro v_ w_175 ⟨rfl, af_178⟩
   have hp_176 := Hp.callA af_178 hp_171
   refine k_nil ?_
   refine ⟨(Wp.of hp_176 [0, 1, 2, 3, 4, 5] rfl), ?_⟩
   obtain ⟨g_179, H⟩ := grd H
   obtain ⟨cs_181, rp_180, q_182⟩ := arr_elem q_9 g_179
   obtain rfl : cs_181 = [.int .i64 ((vg a0.regs a1.T).n), .int .u64 ((vg a0.regs a1.T).hang)] := rp_180
   refine w_take (m' := 16383) (v := .pointer (some ⟨b_1, 4 + (a1.T : Int).toNat * 2, none⟩)) 13 rfl rfl (by kernel_rfl) (by kernel_rfl) (by kernel_rfl) (by kernel_rfl) (by kernel_rfl) (by kernel_rfl) (by kernel_rfl) (po_then (po_x po_body)) (Wp.of hp_176 [0, 1, 2, 3, 4, 5] rfl) (y_val (fun w_ hW_ => e_aidx (tm rfl rfl) (tm rfl rfl) Try.runUnderlying56 Try.sizeOf55 g_179)) ?_
   refine w_one (m' := 32767) 14 rfl (by kernel_rfl) (by kernel_rfl) ?_
   refine s_storeA (E := thread_cell_E) (i := a1.T) (inn := 0) (r := 0) (el := (⟨(thread_two.m (wrap64 (((vg a0.regs a1.A).n) + ((vg a0.regs a1.B).n))) (⟨(vg a0.regs a1.A).n, (vg a0.regs a1.A).hang⟩ : thread_cell) (⟨(vg a0.regs a1.B).n, (vg a0.regs a1.B).hang⟩ : thread_cell)).n, (thread_two.m (wrap64 (((vg a0.regs a1.A).n) + ((vg a0.regs a1.B).n))) (⟨(vg a0.regs a1.A).n, (vg a0.regs a1.A).hang⟩ : thread_cell) (⟨(vg a0.regs a1.B).n, (vg a0.regs a1.B).hang⟩ : thread_cell)).hang⟩ : thread_cell)) (vs := [.int .i64 ((thread_two.m (wrap64 (((vg a0.regs a1.A).n) + ((vg a0.regs a1.B).n))) (⟨(vg a0.regs a1.A).n, (vg a0.regs a1.A).hang⟩ : thread_cell) (⟨(vg a0.regs a1.B).n, (vg a0.regs a1.B).hang⟩ : thread_cell)).n), .int .u64 ((thread_two.m (wrap64 (((vg a0.regs a1.A).n) + ((vg a0.regs a1.B).n))) (⟨(vg a0.regs a1.A).n, (vg a0.regs a1.A).hang⟩ : thread_cell) (⟨(vg a0.regs a1.B).n, (vg a0.regs a1.B).hang⟩ : thread_cell)).hang)]) (pre := ([.slice A_2 a0.code.length c_3, .int .i64 a0.locs, .int .i64 a0.base, .slice A_5 a0.answers.length c_6] : List Value)) (post := ([] : List Value) ++ (cs_10 ++ ([.bool a0.less, .bool a0.same, .int .u64 a0.held, .int .u64 a0.ctrl, .int .u64 a0.fenced, .int .i64 a0.hold, .int .i64 a0.event, .slice A_12 a0.out.length c_13] : List Value))) (fun q_ => (([.slice A_2 a0.code.length c_3, .int .i64 a0.locs, .int .i64 a0.base, .slice A_5 a0.answers.length c_6] : List Value) ++ (q_ ++ (([] : List Value) ++ (cs_10 ++ ([.bool a0.less, .bool a0.same, .int .u64 a0.held, .int .u64 a0.ctrl, .int .u64 a0.fenced, .int .i64 a0.hold, .int .i64 a0.event, .slice A_12 a0.out.length c_13] : List Value)))))) hp_176 (tm rfl rfl) (tm rfl rfl) rfl Try.sizeOf55 rfl rfl rfl rfl (fun _ => rfl) rfl q_9 g_179 rfl q_182 rfl (fun w_183 cs_185 hp_184 q_186 => ?_)
   refine k_nil ?_
   refine ⟨(Wp.of hp_184 [1, 2, 3, 4, 5] rfl), ?_⟩
   refine w_done (by kernel_rfl) ?_
   obtain rfl := Option.some.inj H
   exact ⟨{ a0 with regs := (vp a0.regs a1.T (⟨(thread_two.m (wrap64 (((vg a0.regs a1.A).n) + ((vg a0.regs a1.B).n))) (⟨(vg a0.regs a1.A).n, (vg a0.regs a1.A).hang⟩ : thread_cell) (⟨(vg a0.regs a1.B).n, (vg a0.regs a1.B).hang⟩ : thread_cell)).n, (thread_two.m (wrap64 (((vg a0.regs a1.A).n) + ((vg a0.regs a1.B).n))) (⟨(vg a0.regs a1.A).n, (vg a0.regs a1.A).hang⟩ : thread_cell) (⟨(vg a0.regs a1.B).n, (vg a0.regs a1.B).hang⟩ : thread_cell)).hang⟩ : thread_cell)) }, _, A_5, c_6, cs_185, cs_10, A_12, c_13, X_15, rfl, seenF trivial, hp_184.pick [0, 1] (by decide) rfl, q_4, q_7, q_186, q_11, q_14⟩
  have H := iff_ h_169 H
  refine kq tb hp_110 [] [(125, .bool (decide (a1.Op = 7)))] (by kernel_rfl) fun σ => ?_
  refine k_if (tm rfl rfl) (fun h_187 => ?_) (fun h_187 => ?_)
  ·have H := ift h_187 H
   refine k_anyF [[0, 1, 2, 3, 4, 5], [0, 1, 2, 3, 4, 5], [0, 1, 2, 3, 4, 5], [0, 1, 2, 3, 4, 5], [0, 1, 2, 3, 4, 5], [0, 1, 2, 3, 4, 5], [0, 1, 2, 3, 4, 5], [0, 1, 2, 3, 4, 5], [0, 1, 2, 3, 4, 5], [0, 1, 2, 3, 4, 5], [0, 1, 2, 3, 4, 5], [0, 1, 2, 3, 4, 5], [0, 1, 2, 3, 4, 5], [0, 1, 2, 3, 4, 5], [1, 2, 3, 4, 5]] [0, 0, 2, 0, 8, 0, 32, 120, 0, 0, 1016, 1, 2049, 8191, 16383] mixed hp_110 15 (by kernel_rfl) (fun w_188 hp_189 => ?_)
   refine w_takes (f := 3) tb [0, 1, 2, 3, 4, 5] (Wp.of hp_189 [0, 1, 2, 3, 4, 5] rfl) [] [] [] [(0, 0, 0), (3, 2, 0), (5, 3, 0), (6, 4, 0)] [] [0, 1, 3, 5, 11, 12, 2, 4, 6, 7, 8, 9] 7167 [(139, .pointer (some ⟨b_1, 4, none⟩)), (129, .int .i64 a1.T), (134, .int .i64 (wrap64 (((vg a0.regs a1.B).n) - ((vg a0.regs a1.A).n)))), (135, .agg #[.int .i64 ((vg a0.regs a1.A).n), .int .u64 ((vg a0.regs a1.A).hang)]), (136, .agg #[.int .i64 ((vg a0.regs a1.B).n), .int .u64 ((vg a0.regs a1.B).hang)])] (fun _ => (po_then (po_x po_body))) rfl rfl (by kernel_rfl) fun σ => ?_
   refine w_one (m' := 8191) 10 rfl (by kernel_rfl) (by kernel_rfl) ?_
   refine s_call (.cons (tm rfl rfl) (.cons (tm rfl rfl) (.cons (tm rfl rfl) .nil))) Try.call35 (thread_two.calls (wrap64 (((vg a0.regs a1.B).n) - ((vg a0.regs a1.A).n))) (⟨(vg a0.regs a1.A).n, (vg a0.regs a1.A).hang⟩ : thread_cell) (⟨(vg a0.regs a1.B).n, (vg a0.regs a1.B).hang⟩ : thread_cell) _) rfl ?_
   rintro v_ w_193 ⟨rfl, af_196⟩
   have hp_194 := Hp.callA af_196 hp_189
   refine k_nil ?_
   refine ⟨(Wp.of hp_194 [0, 1, 2, 3, 4, 5] rfl), ?_⟩
   obtain ⟨g_197, H⟩ := grd H
   obtain ⟨cs_199, rp_198, q_200⟩ := arr_elem q_9 g_197
   obtain rfl : cs_199 = [.int .i64 ((vg a0.regs a1.T).n), .int .u64 ((vg a0.regs a1.T).hang)] := rp_198
   refine w_take (m' := 16383) (v := .pointer (some ⟨b_1, 4 + (a1.T : Int).toNat * 2, none⟩)) 13 rfl rfl (by kernel_rfl) (by kernel_rfl) (by kernel_rfl) (by kernel_rfl) (by kernel_rfl) (by kernel_rfl) (by kernel_rfl) (po_then (po_x po_body)) (Wp.of hp_194 [0, 1, 2, 3, 4, 5] rfl) (y_val (fun w_ hW_ => e_aidx (tm rfl rfl) (tm rfl rfl) Try.runUnderlying56 Try.sizeOf55 g_197)) ?_
   refine w_one (m' := 32767) 14 rfl (by kernel_rfl) (by kernel_rfl) ?_
   refine s_storeA (E := thread_cell_E) (i := a1.T) (inn := 0) (r := 0) (el := (⟨(thread_two.m (wrap64 (((vg a0.regs a1.B).n) - ((vg a0.regs a1.A).n))) (⟨(vg a0.regs a1.A).n, (vg a0.regs a1.A).hang⟩ : thread_cell) (⟨(vg a0.regs a1.B).n, (vg a0.regs a1.B).hang⟩ : thread_cell)).n, (thread_two.m (wrap64 (((vg a0.regs a1.B).n) - ((vg a0.regs a1.A).n))) (⟨(vg a0.regs a1.A).n, (vg a0.regs a1.A).hang⟩ : thread_cell) (⟨(vg a0.regs a1.B).n, (vg a0.regs a1.B).hang⟩ : thread_cell)).hang⟩ : thread_cell)) (vs := [.int .i64 ((thread_two.m (wrap64 (((vg a0.regs a1.B).n) - ((vg a0.regs a1.A).n))) (⟨(vg a0.regs a1.A).n, (vg a0.regs a1.A).hang⟩ : thread_cell) (⟨(vg a0.regs a1.B).n, (vg a0.regs a1.B).hang⟩ : thread_cell)).n), .int .u64 ((thread_two.m (wrap64 (((vg a0.regs a1.B).n) - ((vg a0.regs a1.A).n))) (⟨(vg a0.regs a1.A).n, (vg a0.regs a1.A).hang⟩ : thread_cell) (⟨(vg a0.regs a1.B).n, (vg a0.regs a1.B).hang⟩ : thread_cell)).hang)]) (pre := ([.slice A_2 a0.code.length c_3, .int .i64 a0.locs, .int .i64 a0.base, .slice A_5 a0.answers.length c_6] : List Value)) (post := ([] : List Value) ++ (cs_10 ++ ([.bool a0.less, .bool a0.same, .int .u64 a0.held, .int .u64 a0.ctrl, .int .u64 a0.fenced, .int .i64 a0.hold, .int .i64 a0.event, .slice A_12 a0.out.length c_13] : List Value))) (fun q_ => (([.slice A_2 a0.code.length c_3, .int .i64 a0.locs, .int .i64 a0.base, .slice A_5 a0.answers.length c_6] : List Value) ++ (q_ ++ (([] : List Value) ++ (cs_10 ++ ([.bool a0.less, .bool a0.same, .int .u64 a0.held, .int .u64 a0.ctrl, .int .u64 a0.fenced, .int .i64 a0.hold, .int .i64 a0.event, .slice A_12 a0.out.length c_13] : List Value)))))) hp_194 (tm rfl rfl) (tm rfl rfl) rfl Try.sizeOf55 rfl rfl rfl rfl (fun _ => rfl) rfl q_9 g_197 rfl q_200 rfl (fun w_201 cs_203 hp_202 q_204 => ?_)
   refine k_nil ?_
   refine ⟨(Wp.of hp_202 [1, 2, 3, 4, 5] rfl), ?_⟩
   refine w_done (by kernel_rfl) ?_
   obtain rfl := Option.some.inj H
   exact ⟨{ a0 with regs := (vp a0.regs a1.T (⟨(thread_two.m (wrap64 (((vg a0.regs a1.B).n) - ((vg a0.regs a1.A).n))) (⟨(vg a0.regs a1.A).n, (vg a0.regs a1.A).hang⟩ : thread_cell) (⟨(vg a0.regs a1.B).n, (vg a0.regs a1.B).hang⟩ : thread_cell)).n, (thread_two.m (wrap64 (((vg a0.regs a1.B).n) - ((vg a0.regs a1.A).n))) (⟨(vg a0.regs a1.A).n, (vg a0.regs a1.A).hang⟩ : thread_cell) (⟨(vg a0.regs a1.B).n, (vg a0.regs a1.B).hang⟩ : thread_cell)).hang⟩ : thread_cell)) }, _, A_5, c_6, cs_203, cs_10, A_12, c_13, X_15, rfl, seenF trivial, hp_202.pick [0, 1] (by decide) rfl, q_4, q_7, q_204, q_11, q_14⟩
  have H := iff_ h_187 H
  refine kq tb hp_110 [] [(141, .bool (decide (a1.Op = 8)))] (by kernel_rfl) fun σ => ?_
  refine k_if (tm rfl rfl) (fun h_205 => ?_) (fun h_205 => ?_)
  ·have H := ift h_205 H
   refine k_anyF [[0, 1, 2, 3, 4, 5], [0, 1, 2, 3, 4, 5], [0, 1, 2, 3, 4, 5], [0, 1, 2, 3, 4, 5], [0, 1, 2, 3, 4, 5], [0, 1, 2, 3, 4, 5], [0, 1, 2, 3, 4, 5], [0, 1, 2, 3, 4, 5], [0, 1, 2, 3, 4, 5], [0, 1, 2, 3, 4, 5], [0, 1, 2, 3, 4, 5], [0, 1, 2, 3, 4, 5], [0, 1, 2, 3, 4, 5], [0, 1, 2, 3, 4, 5], [1, 2, 3, 4, 5]] [0, 0, 2, 0, 8, 0, 32, 120, 0, 0, 1016, 1, 2049, 8191, 16383] mixed hp_110 15 (by kernel_rfl) (fun w_206 hp_207 => ?_)
   refine w_takes (f := 3) tb [0, 1, 2, 3, 4, 5] (Wp.of hp_207 [0, 1, 2, 3, 4, 5] rfl) [] [] [] [(0, 0, 0), (3, 2, 0), (5, 3, 0), (6, 4, 0)] [] [0, 1, 3, 5, 11, 12, 2, 4, 6, 7, 8, 9] 7167 [(155, .pointer (some ⟨b_1, 4, none⟩)), (145, .int .i64 a1.T), (150, .int .i64 (wrap64 (((vg a0.regs a1.A).n) * ((vg a0.regs a1.B).n)))), (151, .agg #[.int .i64 ((vg a0.regs a1.A).n), .int .u64 ((vg a0.regs a1.A).hang)]), (152, .agg #[.int .i64 ((vg a0.regs a1.B).n), .int .u64 ((vg a0.regs a1.B).hang)])] (fun _ => (po_then (po_x po_body))) rfl rfl (by kernel_rfl) fun σ => ?_
   refine w_one (m' := 8191) 10 rfl (by kernel_rfl) (by kernel_rfl) ?_
   refine s_call (.cons (tm rfl rfl) (.cons (tm rfl rfl) (.cons (tm rfl rfl) .nil))) Try.call35 (thread_two.calls (wrap64 (((vg a0.regs a1.A).n) * ((vg a0.regs a1.B).n))) (⟨(vg a0.regs a1.A).n, (vg a0.regs a1.A).hang⟩ : thread_cell) (⟨(vg a0.regs a1.B).n, (vg a0.regs a1.B).hang⟩ : thread_cell) _) rfl ?_
   rintro v_ w_211 ⟨rfl, af_214⟩
   have hp_212 := Hp.callA af_214 hp_207
   refine k_nil ?_
   refine ⟨(Wp.of hp_212 [0, 1, 2, 3, 4, 5] rfl), ?_⟩
   obtain ⟨g_215, H⟩ := grd H
   obtain ⟨cs_217, rp_216, q_218⟩ := arr_elem q_9 g_215
   obtain rfl : cs_217 = [.int .i64 ((vg a0.regs a1.T).n), .int .u64 ((vg a0.regs a1.T).hang)] := rp_216
   refine w_take (m' := 16383) (v := .pointer (some ⟨b_1, 4 + (a1.T : Int).toNat * 2, none⟩)) 13 rfl rfl (by kernel_rfl) (by kernel_rfl) (by kernel_rfl) (by kernel_rfl) (by kernel_rfl) (by kernel_rfl) (by kernel_rfl) (po_then (po_x po_body)) (Wp.of hp_212 [0, 1, 2, 3, 4, 5] rfl) (y_val (fun w_ hW_ => e_aidx (tm rfl rfl) (tm rfl rfl) Try.runUnderlying56 Try.sizeOf55 g_215)) ?_
   refine w_one (m' := 32767) 14 rfl (by kernel_rfl) (by kernel_rfl) ?_
   refine s_storeA (E := thread_cell_E) (i := a1.T) (inn := 0) (r := 0) (el := (⟨(thread_two.m (wrap64 (((vg a0.regs a1.A).n) * ((vg a0.regs a1.B).n))) (⟨(vg a0.regs a1.A).n, (vg a0.regs a1.A).hang⟩ : thread_cell) (⟨(vg a0.regs a1.B).n, (vg a0.regs a1.B).hang⟩ : thread_cell)).n, (thread_two.m (wrap64 (((vg a0.regs a1.A).n) * ((vg a0.regs a1.B).n))) (⟨(vg a0.regs a1.A).n, (vg a0.regs a1.A).hang⟩ : thread_cell) (⟨(vg a0.regs a1.B).n, (vg a0.regs a1.B).hang⟩ : thread_cell)).hang⟩ : thread_cell)) (vs := [.int .i64 ((thread_two.m (wrap64 (((vg a0.regs a1.A).n) * ((vg a0.regs a1.B).n))) (⟨(vg a0.regs a1.A).n, (vg a0.regs a1.A).hang⟩ : thread_cell) (⟨(vg a0.regs a1.B).n, (vg a0.regs a1.B).hang⟩ : thread_cell)).n), .int .u64 ((thread_two.m (wrap64 (((vg a0.regs a1.A).n) * ((vg a0.regs a1.B).n))) (⟨(vg a0.regs a1.A).n, (vg a0.regs a1.A).hang⟩ : thread_cell) (⟨(vg a0.regs a1.B).n, (vg a0.regs a1.B).hang⟩ : thread_cell)).hang)]) (pre := ([.slice A_2 a0.code.length c_3, .int .i64 a0.locs, .int .i64 a0.base, .slice A_5 a0.answers.length c_6] : List Value)) (post := ([] : List Value) ++ (cs_10 ++ ([.bool a0.less, .bool a0.same, .int .u64 a0.held, .int .u64 a0.ctrl, .int .u64 a0.fenced, .int .i64 a0.hold, .int .i64 a0.event, .slice A_12 a0.out.length c_13] : List Value))) (fun q_ => (([.slice A_2 a0.code.length c_3, .int .i64 a0.locs, .int .i64 a0.base, .slice A_5 a0.answers.length c_6] : List Value) ++ (q_ ++ (([] : List Value) ++ (cs_10 ++ ([.bool a0.less, .bool a0.same, .int .u64 a0.held, .int .u64 a0.ctrl, .int .u64 a0.fenced, .int .i64 a0.hold, .int .i64 a0.event, .slice A_12 a0.out.length c_13] : List Value)))))) hp_212 (tm rfl rfl) (tm rfl rfl) rfl Try.sizeOf55 rfl rfl rfl rfl (fun _ => rfl) rfl q_9 g_215 rfl q_218 rfl (fun w_219 cs_221 hp_220 q_222 => ?_)
   refine k_nil ?_
   refine ⟨(Wp.of hp_220 [1, 2, 3, 4, 5] rfl), ?_⟩
   refine w_done (by kernel_rfl) ?_
   obtain rfl := Option.some.inj H
   exact ⟨{ a0 with regs := (vp a0.regs a1.T (⟨(thread_two.m (wrap64 (((vg a0.regs a1.A).n) * ((vg a0.regs a1.B).n))) (⟨(vg a0.regs a1.A).n, (vg a0.regs a1.A).hang⟩ : thread_cell) (⟨(vg a0.regs a1.B).n, (vg a0.regs a1.B).hang⟩ : thread_cell)).n, (thread_two.m (wrap64 (((vg a0.regs a1.A).n) * ((vg a0.regs a1.B).n))) (⟨(vg a0.regs a1.A).n, (vg a0.regs a1.A).hang⟩ : thread_cell) (⟨(vg a0.regs a1.B).n, (vg a0.regs a1.B).hang⟩ : thread_cell)).hang⟩ : thread_cell)) }, _, A_5, c_6, cs_221, cs_10, A_12, c_13, X_15, rfl, seenF trivial, hp_220.pick [0, 1] (by decide) rfl, q_4, q_7, q_222, q_11, q_14⟩
  have H := iff_ h_205 H
  refine kq tb hp_110 [] [(157, .bool (decide (a1.Op = 9)))] (by kernel_rfl) fun σ => ?_
  refine k_if (tm rfl rfl) (fun h_223 => ?_) (fun h_223 => ?_)
  ·as_aux_lemma =>
   have H := ift h_223 H
   refine k_anyF [[0, 1, 2, 3, 4, 5], [0, 1, 2, 3, 4, 5], [0, 1, 2, 3, 4, 5], [0, 1, 2, 3, 4, 5], [0, 1, 2, 3, 4, 5], [0, 1, 2, 3, 4, 5], [0, 1, 2, 3, 4, 5], [0, 1, 2, 3, 4, 5], [0, 1, 2, 3, 4, 5], [0, 1, 2, 3, 4, 5], [0, 1, 2, 3, 4, 5], [0, 1, 2, 3, 4, 5], [0, 1, 2, 3, 4, 5], [0, 1, 2, 3, 4, 5], [1, 2, 3, 4, 5]] [0, 0, 2, 0, 8, 0, 32, 120, 0, 0, 1016, 1, 2049, 8191, 16383] mixed hp_110 15 (by kernel_rfl) (fun w_224 hp_225 => ?_)
   refine w_takes (f := 4) tb [0, 1, 2, 3, 4, 5] (Wp.of hp_225 [0, 1, 2, 3, 4, 5] rfl) [] [] [] [(0, 0, 0), (3, 2, 0), (5, 3, 0), (6, 4, 0)] [] [0, 1, 3, 5, 11, 12, 2, 4, 6, 8, 9] 7039 [(171, .pointer (some ⟨b_1, 4, none⟩)), (161, .int .i64 a1.T), (163, .int .i64 ((vg a0.regs a1.A).n)), (165, .int .i64 ((vg a0.regs a1.B).n)), (167, .agg #[.int .i64 ((vg a0.regs a1.A).n), .int .u64 ((vg a0.regs a1.A).hang)]), (168, .agg #[.int .i64 ((vg a0.regs a1.B).n), .int .u64 ((vg a0.regs a1.B).hang)])] (fun _ => (po_then (po_x po_body))) rfl rfl (by kernel_rfl) fun σ => ?_
   refine w_one (m' := 7167) 7 rfl (by kernel_rfl) (by kernel_rfl) ?_
   obtain ⟨r_228, hx_227, H⟩ := bindSome H
   refine s_call (.cons (tm rfl rfl) (.cons (tm rfl rfl) .nil)) Try.call36 (thread_quotient.calls ((vg a0.regs a1.A).n) ((vg a0.regs a1.B).n) r_228 _ hx_227) rfl ?_
   rintro v_ w_229 ⟨rfl, af_232⟩
   have hp_230 := Hp.callA af_232 hp_225
   refine k_nil ?_
   refine ⟨(Wp.of hp_230 [0, 1, 2, 3, 4, 5] rfl), ?_⟩
   refine w_one (m' := 8191) 10 rfl (by kernel_rfl) (by kernel_rfl) ?_
   refine s_call (.cons (tm rfl rfl) (.cons (tm rfl rfl) (.cons (tm rfl rfl) .nil))) Try.call35 (thread_two.calls r_228 (⟨(vg a0.regs a1.A).n, (vg a0.regs a1.A).hang⟩ : thread_cell) (⟨(vg a0.regs a1.B).n, (vg a0.regs a1.B).hang⟩ : thread_cell) _) rfl ?_
   rintro v_ w_236 ⟨rfl, af_239⟩
   have hp_237 := Hp.callA af_239 hp_230
   refine k_nil ?_
   refine ⟨(Wp.of hp_237 [0, 1, 2, 3, 4, 5] rfl), ?_⟩
   obtain ⟨g_240, H⟩ := grd H
   obtain ⟨cs_242, rp_241, q_243⟩ := arr_elem q_9 g_240
   obtain rfl : cs_242 = [.int .i64 ((vg a0.regs a1.T).n), .int .u64 ((vg a0.regs a1.T).hang)] := rp_241
   refine w_take (m' := 16383) (v := .pointer (some ⟨b_1, 4 + (a1.T : Int).toNat * 2, none⟩)) 13 rfl rfl (by kernel_rfl) (by kernel_rfl) (by kernel_rfl) (by kernel_rfl) (by kernel_rfl) (by kernel_rfl) (by kernel_rfl) (po_then (po_x po_body)) (Wp.of hp_237 [0, 1, 2, 3, 4, 5] rfl) (y_val (fun w_ hW_ => e_aidx (tm rfl rfl) (tm rfl rfl) Try.runUnderlying56 Try.sizeOf55 g_240)) ?_
   refine w_one (m' := 32767) 14 rfl (by kernel_rfl) (by kernel_rfl) ?_
   refine s_storeA (E := thread_cell_E) (i := a1.T) (inn := 0) (r := 0) (el := (⟨(thread_two.m r_228 (⟨(vg a0.regs a1.A).n, (vg a0.regs a1.A).hang⟩ : thread_cell) (⟨(vg a0.regs a1.B).n, (vg a0.regs a1.B).hang⟩ : thread_cell)).n, (thread_two.m r_228 (⟨(vg a0.regs a1.A).n, (vg a0.regs a1.A).hang⟩ : thread_cell) (⟨(vg a0.regs a1.B).n, (vg a0.regs a1.B).hang⟩ : thread_cell)).hang⟩ : thread_cell)) (vs := [.int .i64 ((thread_two.m r_228 (⟨(vg a0.regs a1.A).n, (vg a0.regs a1.A).hang⟩ : thread_cell) (⟨(vg a0.regs a1.B).n, (vg a0.regs a1.B).hang⟩ : thread_cell)).n), .int .u64 ((thread_two.m r_228 (⟨(vg a0.regs a1.A).n, (vg a0.regs a1.A).hang⟩ : thread_cell) (⟨(vg a0.regs a1.B).n, (vg a0.regs a1.B).hang⟩ : thread_cell)).hang)]) (pre := ([.slice A_2 a0.code.length c_3, .int .i64 a0.locs, .int .i64 a0.base, .slice A_5 a0.answers.length c_6] : List Value)) (post := ([] : List Value) ++ (cs_10 ++ ([.bool a0.less, .bool a0.same, .int .u64 a0.held, .int .u64 a0.ctrl, .int .u64 a0.fenced, .int .i64 a0.hold, .int .i64 a0.event, .slice A_12 a0.out.length c_13] : List Value))) (fun q_ => (([.slice A_2 a0.code.length c_3, .int .i64 a0.locs, .int .i64 a0.base, .slice A_5 a0.answers.length c_6] : List Value) ++ (q_ ++ (([] : List Value) ++ (cs_10 ++ ([.bool a0.less, .bool a0.same, .int .u64 a0.held, .int .u64 a0.ctrl, .int .u64 a0.fenced, .int .i64 a0.hold, .int .i64 a0.event, .slice A_12 a0.out.length c_13] : List Value)))))) hp_237 (tm rfl rfl) (tm rfl rfl) rfl Try.sizeOf55 rfl rfl rfl rfl (fun _ => rfl) rfl q_9 g_240 rfl q_243 rfl (fun w_244 cs_246 hp_245 q_247 => ?_)
   refine k_nil ?_
   refine ⟨(Wp.of hp_245 [1, 2, 3, 4, 5] rfl), ?_⟩
   refine w_done (by kernel_rfl) ?_
   obtain rfl := Option.some.inj H
   exact ⟨{ a0 with regs := (vp a0.regs a1.T (⟨(thread_two.m r_228 (⟨(vg a0.regs a1.A).n, (vg a0.regs a1.A).hang⟩ : thread_cell) (⟨(vg a0.regs a1.B).n, (vg a0.regs a1.B).hang⟩ : thread_cell)).n, (thread_two.m r_228 (⟨(vg a0.regs a1.A).n, (vg a0.regs a1.A).hang⟩ : thread_cell) (⟨(vg a0.regs a1.B).n, (vg a0.regs a1.B).hang⟩ : thread_cell)).hang⟩ : thread_cell)) }, _, A_5, c_6, cs_246, cs_10, A_12, c_13, X_15, rfl, seenF trivial, hp_245.pick [0, 1] (by decide) rfl, q_4, q_7, q_247, q_11, q_14⟩
  have H := iff_ h_223 H
  refine kq tb hp_110 [] [(173, .bool (decide (a1.Op = 16)))] (by kernel_rfl) fun σ => ?_
  refine k_if (tm rfl rfl) (fun h_248 => ?_) (fun h_248 => ?_)
  ·have H := ift h_248 H
   refine k_anyF [[1, 2, 3, 4, 5], [1, 2, 3, 4, 5], [1, 2, 3, 4, 5], [1, 2, 3, 4, 5], [1, 2, 3, 4, 5], [1, 2, 3, 4, 5], [1, 2, 3, 4, 5], [1, 2, 3, 4, 5], [1, 2, 3, 4, 5], [1, 2, 3, 4, 5], [1, 2, 3, 4, 5], [1, 2, 3, 4, 5], [1, 2, 3, 4, 5], [1, 2, 3, 4, 5], [1, 2, 3, 4, 5], [1, 2, 3, 4, 5], [1, 2, 3, 4, 5], [1, 2, 3, 4, 5], [1, 2, 3, 4, 5], [1, 2, 3, 4, 5], [1, 2, 3, 4, 5], [1, 2, 3, 4, 5], [1, 2, 3, 4, 5], [1, 2, 3, 4, 5], [1, 2, 3, 4, 5], [1, 2, 3, 4, 5], [1, 2, 3, 4, 5]] [0, 0, 0, 0, 8, 0, 32, 120, 0, 256, 0, 1024, 3840, 0, 8192, 0, 32768, 122880, 249, 262393, 786681, 1843195, 3940347, 8134651, 16777215, 33554431, 67108863] mixed hp_110 27 (by kernel_rfl) (fun w_249 hp_250 => ?_)
   refine w_takes (f := 7) tb [1, 2, 3, 4, 5] (Wp.of hp_250 [1, 2, 3, 4, 5] rfl) [] [] [] [(0, 0, 0), (5, 3, 0), (6, 4, 0)] [] [0, 1, 2, 3, 5, 8, 10, 13, 15, 4, 6, 7, 18, 19, 9, 11, 12, 14, 16, 17] 1048575 [(176, .pointer (some ⟨b_1, 0, none⟩)), (177, .pointer (some ⟨b_1, 0, none⟩)), (182, .bool (decide (((vg a0.regs a1.A).n) < ((vg a0.regs a1.B).n)))), (194, .pointer (some ⟨b_1, 868, none⟩)), (187, .bool (decide (((vg a0.regs a1.A).n) = ((vg a0.regs a1.B).n)))), (192, .int .u64 (bits .or .u64 ((vg a0.regs a1.A).hang) ((vg a0.regs a1.B).hang)))] (fun _ => (po_then (po_x po_body))) rfl rfl (by kernel_rfl) fun σ => ?_
   refine w_one (m' := 2097151) 20 rfl (by kernel_rfl) (by kernel_rfl) ?_
   refine s_store (i := 0) (j := 0) (vs := [.bool (decide (((vg a0.regs a1.A).n) < ((vg a0.regs a1.B).n)))]) (l' := (([.slice A_2 a0.code.length c_3, .int .i64 a0.locs, .int .i64 a0.base, .slice A_5 a0.answers.length c_6] : List Value) ++ (cs_8 ++ (([] : List Value) ++ (cs_10 ++ ([.bool (decide (((vg a0.regs a1.A).n) < ((vg a0.regs a1.B).n))), .bool a0.same, .int .u64 a0.held, .int .u64 a0.ctrl, .int .u64 a0.fenced, .int .i64 a0.hold, .int .i64 a0.event, .slice A_12 a0.out.length c_13] : List Value)))))) hp_250 (tm rfl rfl) (tm rfl rfl) rfl Try.sizeOf4 rfl rfl rfl rfl (ble_len (lenA rfl (lenA (arr_len q_9 rfl) (lenA rfl (lenA (arr_len q_11 rfl) rfl)))) rfl) (segu 4 864 rfl (segu 64 800 (arr_len q_9 rfl) (segu 0 800 rfl (segu 800 0 (arr_len q_11 rfl) rfl)))) (fun w_251 hp_252 => ?_)
   refine k_nil ?_
   refine ⟨(Wp.of hp_252 [1, 2, 3, 4, 5] rfl), ?_⟩
   refine w_takes (f := 4) tb [1, 2, 3, 4, 5] (Wp.of hp_252 [1, 2, 3, 4, 5] rfl) [] [] [] [(176, 0, 0)] [] [21, 22] 8388607 [(196, .pointer (some ⟨b_1, 869, none⟩))] (fun _ => (po_then (po_x po_body))) rfl rfl (by kernel_rfl) fun σ => ?_
   refine w_one (m' := 16777215) 23 rfl (by kernel_rfl) (by kernel_rfl) ?_
   refine s_store (i := 0) (j := 0) (vs := [.bool (decide (((vg a0.regs a1.A).n) = ((vg a0.regs a1.B).n)))]) (l' := (([.slice A_2 a0.code.length c_3, .int .i64 a0.locs, .int .i64 a0.base, .slice A_5 a0.answers.length c_6] : List Value) ++ (cs_8 ++ (([] : List Value) ++ (cs_10 ++ ([.bool (decide (((vg a0.regs a1.A).n) < ((vg a0.regs a1.B).n))), .bool (decide (((vg a0.regs a1.A).n) = ((vg a0.regs a1.B).n))), .int .u64 a0.held, .int .u64 a0.ctrl, .int .u64 a0.fenced, .int .i64 a0.hold, .int .i64 a0.event, .slice A_12 a0.out.length c_13] : List Value)))))) hp_252 (tm rfl rfl) (tm rfl rfl) rfl Try.sizeOf4 rfl rfl rfl rfl (ble_len (lenA rfl (lenA (arr_len q_9 rfl) (lenA rfl (lenA (arr_len q_11 rfl) rfl)))) rfl) (segu 4 865 rfl (segu 64 801 (arr_len q_9 rfl) (segu 0 801 rfl (segu 800 1 (arr_len q_11 rfl) rfl)))) (fun w_253 hp_254 => ?_)
   refine k_nil ?_
   refine ⟨(Wp.of hp_254 [1, 2, 3, 4, 5] rfl), ?_⟩
   refine w_takes (f := 1) tb [1, 2, 3, 4, 5] (Wp.of hp_254 [1, 2, 3, 4, 5] rfl) [] [] [] [(177, 0, 0)] [] [24, 25] 67108863 [(198, .pointer (some ⟨b_1, 870, none⟩))] (fun _ => (po_then (po_x po_body))) rfl rfl (by kernel_rfl) fun σ => ?_
   refine w_one (m' := 134217727) 26 rfl (by kernel_rfl) (by kernel_rfl) ?_
   refine s_store (i := 0) (j := 0) (vs := [.int .u64 (bits .or .u64 ((vg a0.regs a1.A).hang) ((vg a0.regs a1.B).hang))]) (l' := (([.slice A_2 a0.code.length c_3, .int .i64 a0.locs, .int .i64 a0.base, .slice A_5 a0.answers.length c_6] : List Value) ++ (cs_8 ++ (([] : List Value) ++ (cs_10 ++ ([.bool (decide (((vg a0.regs a1.A).n) < ((vg a0.regs a1.B).n))), .bool (decide (((vg a0.regs a1.A).n) = ((vg a0.regs a1.B).n))), .int .u64 (bits .or .u64 ((vg a0.regs a1.A).hang) ((vg a0.regs a1.B).hang)), .int .u64 a0.ctrl, .int .u64 a0.fenced, .int .i64 a0.hold, .int .i64 a0.event, .slice A_12 a0.out.length c_13] : List Value)))))) hp_254 (tm rfl rfl) (tm rfl rfl) rfl Try.sizeOf31 rfl rfl rfl rfl (ble_len (lenA rfl (lenA (arr_len q_9 rfl) (lenA rfl (lenA (arr_len q_11 rfl) rfl)))) rfl) (segu 4 866 rfl (segu 64 802 (arr_len q_9 rfl) (segu 0 802 rfl (segu 800 2 (arr_len q_11 rfl) rfl)))) (fun w_255 hp_256 => ?_)
   refine k_nil ?_
   refine ⟨(Wp.of hp_256 [1, 2, 3, 4, 5] rfl), ?_⟩
   refine w_done (by kernel_rfl) ?_
   obtain rfl := Option.some.inj H
   exact ⟨{ a0 with less := decide (((vg a0.regs a1.A).n) < ((vg a0.regs a1.B).n)), same := decide (((vg a0.regs a1.A).n) = ((vg a0.regs a1.B).n)), held := bits .or .u64 ((vg a0.regs a1.A).hang) ((vg a0.regs a1.B).hang) }, _, A_5, c_6, cs_8, cs_10, A_12, c_13, X_15, rfl, seenF trivial, hp_256.pick [0, 1] (by decide) rfl, q_4, q_7, q_9, q_11, q_14⟩
  have H := iff_ h_248 H
  refine kq tb hp_110 [] [(199, .bool (decide (a1.Op = 17)))] (by kernel_rfl) fun σ => ?_
  refine k_if (tm rfl rfl) (fun h_257 => ?_) (fun h_257 => ?_)
  ·have H := ift h_257 H
   refine k_anyF [[1, 2, 3, 4, 5], [1, 2, 3, 4, 5], [1, 2, 3, 4, 5], [1, 2, 3, 4, 5], [1, 2, 3, 4, 5], [1, 2, 3, 4, 5], [1, 2, 3, 4, 5], [1, 2, 3, 4, 5], [1, 2, 3, 4, 5], [1, 2, 3, 4, 5], [1, 2, 3, 4, 5], [1, 2, 3, 4, 5], [1, 2, 3, 4, 5], [1, 2, 3, 4, 5], [1, 2, 3, 4, 5], [1, 2, 3, 4, 5], [1, 2, 3, 4, 5], [1, 2, 3, 4, 5], [1, 2, 3, 4, 5], [1, 2, 3, 4, 5], [1, 2, 3, 4, 5], [1, 2, 3, 4, 5]] [0, 0, 0, 0, 8, 0, 56, 0, 128, 0, 896, 0, 2048, 121, 8313, 24697, 59387, 124923, 255995, 524287, 1048575, 2097151] mixed hp_110 22 (by kernel_rfl) (fun w_258 hp_259 => ?_)
   refine w_takes (f := 7) tb [1, 2, 3, 4, 5] (Wp.of hp_259 [1, 2, 3, 4, 5] rfl) [] [] [] [(0, 0, 0), (5, 3, 0)] [] [0, 1, 2, 3, 5, 7, 9, 11, 4, 6, 13, 14, 8, 10, 12] 32767 [(202, .pointer (some ⟨b_1, 0, none⟩)), (203, .pointer (some ⟨b_1, 0, none⟩)), (207, .bool (decide (((vg a0.regs a1.A).n) < a1.Imm))), (215, .pointer (some ⟨b_1, 868, none⟩)), (211, .bool (decide (((vg a0.regs a1.A).n) = a1.Imm))), (213, .int .u64 ((vg a0.regs a1.A).hang))] (fun _ => (po_then (po_x po_body))) rfl rfl (by kernel_rfl) fun σ => ?_
   refine w_one (m' := 65535) 15 rfl (by kernel_rfl) (by kernel_rfl) ?_
   refine s_store (i := 0) (j := 0) (vs := [.bool (decide (((vg a0.regs a1.A).n) < a1.Imm))]) (l' := (([.slice A_2 a0.code.length c_3, .int .i64 a0.locs, .int .i64 a0.base, .slice A_5 a0.answers.length c_6] : List Value) ++ (cs_8 ++ (([] : List Value) ++ (cs_10 ++ ([.bool (decide (((vg a0.regs a1.A).n) < a1.Imm)), .bool a0.same, .int .u64 a0.held, .int .u64 a0.ctrl, .int .u64 a0.fenced, .int .i64 a0.hold, .int .i64 a0.event, .slice A_12 a0.out.length c_13] : List Value)))))) hp_259 (tm rfl rfl) (tm rfl rfl) rfl Try.sizeOf4 rfl rfl rfl rfl (ble_len (lenA rfl (lenA (arr_len q_9 rfl) (lenA rfl (lenA (arr_len q_11 rfl) rfl)))) rfl) (segu 4 864 rfl (segu 64 800 (arr_len q_9 rfl) (segu 0 800 rfl (segu 800 0 (arr_len q_11 rfl) rfl)))) (fun w_260 hp_261 => ?_)
   refine k_nil ?_
   refine ⟨(Wp.of hp_261 [1, 2, 3, 4, 5] rfl), ?_⟩
   refine w_takes (f := 4) tb [1, 2, 3, 4, 5] (Wp.of hp_261 [1, 2, 3, 4, 5] rfl) [] [] [] [(202, 0, 0)] [] [16, 17] 262143 [(217, .pointer (some ⟨b_1, 869, none⟩))] (fun _ => (po_then (po_x po_body))) rfl rfl (by kernel_rfl) fun σ => ?_
   refine w_one (m' := 524287) 18 rfl (by kernel_rfl) (by kernel_rfl) ?_
   refine s_store (i := 0) (j := 0) (vs := [.bool (decide (((vg a0.regs a1.A).n) = a1.Imm))]) (l' := (([.slice A_2 a0.code.length c_3, .int .i64 a0.locs, .int .i64 a0.base, .slice A_5 a0.answers.length c_6] : List Value) ++ (cs_8 ++ (([] : List Value) ++ (cs_10 ++ ([.bool (decide (((vg a0.regs a1.A).n) < a1.Imm)), .bool (decide (((vg a0.regs a1.A).n) = a1.Imm)), .int .u64 a0.held, .int .u64 a0.ctrl, .int .u64 a0.fenced, .int .i64 a0.hold, .int .i64 a0.event, .slice A_12 a0.out.length c_13] : List Value)))))) hp_261 (tm rfl rfl) (tm rfl rfl) rfl Try.sizeOf4 rfl rfl rfl rfl (ble_len (lenA rfl (lenA (arr_len q_9 rfl) (lenA rfl (lenA (arr_len q_11 rfl) rfl)))) rfl) (segu 4 865 rfl (segu 64 801 (arr_len q_9 rfl) (segu 0 801 rfl (segu 800 1 (arr_len q_11 rfl) rfl)))) (fun w_262 hp_263 => ?_)
   refine k_nil ?_
   refine ⟨(Wp.of hp_263 [1, 2, 3, 4, 5] rfl), ?_⟩
   refine w_takes (f := 1) tb [1, 2, 3, 4, 5] (Wp.of hp_263 [1, 2, 3, 4, 5] rfl) [] [] [] [(203, 0, 0)] [] [19, 20] 2097151 [(219, .pointer (some ⟨b_1, 870, none⟩))] (fun _ => (po_then (po_x po_body))) rfl rfl (by kernel_rfl) fun σ => ?_
   refine w_one (m' := 4194303) 21 rfl (by kernel_rfl) (by kernel_rfl) ?_
   refine s_store (i := 0) (j := 0) (vs := [.int .u64 ((vg a0.regs a1.A).hang)]) (l' := (([.slice A_2 a0.code.length c_3, .int .i64 a0.locs, .int .i64 a0.base, .slice A_5 a0.answers.length c_6] : List Value) ++ (cs_8 ++ (([] : List Value) ++ (cs_10 ++ ([.bool (decide (((vg a0.regs a1.A).n) < a1.Imm)), .bool (decide (((vg a0.regs a1.A).n) = a1.Imm)), .int .u64 ((vg a0.regs a1.A).hang), .int .u64 a0.ctrl, .int .u64 a0.fenced, .int .i64 a0.hold, .int .i64 a0.event, .slice A_12 a0.out.length c_13] : List Value)))))) hp_263 (tm rfl rfl) (tm rfl rfl) rfl Try.sizeOf31 rfl rfl rfl rfl (ble_len (lenA rfl (lenA (arr_len q_9 rfl) (lenA rfl (lenA (arr_len q_11 rfl) rfl)))) rfl) (segu 4 866 rfl (segu 64 802 (arr_len q_9 rfl) (segu 0 802 rfl (segu 800 2 (arr_len q_11 rfl) rfl)))) (fun w_264 hp_265 => ?_)
   refine k_nil ?_
   refine ⟨(Wp.of hp_265 [1, 2, 3, 4, 5] rfl), ?_⟩
   refine w_done (by kernel_rfl) ?_
   obtain rfl := Option.some.inj H
   exact ⟨{ a0 with less := decide (((vg a0.regs a1.A).n) < a1.Imm), same := decide (((vg a0.regs a1.A).n) = a1.Imm), held := (vg a0.regs a1.A).hang }, _, A_5, c_6, cs_8, cs_10, A_12, c_13, X_15, rfl, seenF trivial, hp_265.pick [0, 1] (by decide) rfl, q_4, q_7, q_9, q_11, q_14⟩
  have H := iff_ h_257 H
  refine kq tb hp_110 [] [(220, .bool (decide (a1.Op = 10)))] (by kernel_rfl) fun σ => ?_
  refine k_if (tm rfl rfl) (fun h_266 => ?_) (fun h_266 => ?_)
  ·have H := ift h_266 H
   refine k_region ?_
   refine sr tb hp_110 [(0, 0, 0), (3, 2, 0), (7, 5, 0)] 9 [(222, .pointer (some ⟨b_1, 0, none⟩)), (223, .agg #[.int .i64 a1.Op, .int .i64 a1.T, .int .i64 a1.A, .int .i64 a1.B, .int .i64 a1.Imm]), (230, .agg #[.int .i64 (wrap64 (r_37.n + a1.Imm)), .int .u64 r_37.hang])] (by kernel_rfl) fun σ => ?_
   obtain ⟨r_269, hx_268, H⟩ := bindSome H
   rcases r_269 with p_271 | r_270
   ·refine s_pan (.cons (tm rfl rfl) (.cons (tm rfl rfl) (.cons (tm rfl rfl) .nil))) Try.call37 (thread_thread_load.callsP a0 b_1 A_2 c_3 A_5 c_6 cs_8 cs_10 A_12 c_13 X_15 a1 (⟨wrap64 (r_37.n + a1.Imm), r_37.hang⟩ : thread_cell) p_271 _ _ (Hp.offI hp_110 [[(b_1, .cells (([.slice A_2 a0.code.length c_3, .int .i64 a0.locs, .int .i64 a0.base, .slice A_5 a0.answers.length c_6] : List Value) ++ (cs_8 ++ (([] : List Value) ++ (cs_10 ++ ([.bool a0.less, .bool a0.same, .int .u64 a0.held, .int .u64 a0.ctrl, .int .u64 a0.fenced, .int .i64 a0.hold, .int .i64 a0.event, .slice A_12 a0.out.length c_13] : List Value))))).toArray 59 (0, 0))], X_15] _ rfl) (Hp.have1 hp_110 [[(b_1, .cells (([.slice A_2 a0.code.length c_3, .int .i64 a0.locs, .int .i64 a0.base, .slice A_5 a0.answers.length c_6] : List Value) ++ (cs_8 ++ (([] : List Value) ++ (cs_10 ++ ([.bool a0.less, .bool a0.same, .int .u64 a0.held, .int .u64 a0.ctrl, .int .u64 a0.fenced, .int .i64 a0.hold, .int .i64 a0.event, .slice A_12 a0.out.length c_13] : List Value))))).toArray 59 (0, 0))], X_15] _ rfl) (RdS.now q_4 hp_110) (RdS.now q_7 hp_110) q_9 q_11 q_14 hx_268) ?_
    rintro c_ w_291 ⟨A_296, c_297, cs_299, cs_301, A_303, c_304, X_306, rfl, q_295, q_298, q_300, q_302, q_305, af_294⟩
    have hp_292 := Hp.callA af_294 hp_110
    have q_307 := q_295.up (Hp.down hp_110)
    have q_308 := q_298.up (Hp.down hp_110)
    refine q_panic ?_
    obtain ⟨v_, H', hv_⟩ := mapSome H
    subst hv_
    have H := H'.trans (show some v_ = _ from G_112)
    obtain rfl := Option.some.inj H
    refine ⟨rfl, ?_⟩
    exact .inr ⟨_, rfl, _, rfl, ⟨A_296, c_297, cs_299, cs_301, A_303, c_304, X_306, rfl, q_307, q_308, q_300, q_302, q_305, (hp_292.pick [0, 1] (by decide) rfl).aft⟩⟩
   refine s_call (.cons (tm rfl rfl) (.cons (tm rfl rfl) (.cons (tm rfl rfl) .nil))) Try.call37 (thread_thread_load.calls a0 b_1 A_2 c_3 A_5 c_6 cs_8 cs_10 A_12 c_13 X_15 a1 (⟨wrap64 (r_37.n + a1.Imm), r_37.hang⟩ : thread_cell) r_270 _ _ (Hp.offI hp_110 [[(b_1, .cells (([.slice A_2 a0.code.length c_3, .int .i64 a0.locs, .int .i64 a0.base, .slice A_5 a0.answers.length c_6] : List Value) ++ (cs_8 ++ (([] : List Value) ++ (cs_10 ++ ([.bool a0.less, .bool a0.same, .int .u64 a0.held, .int .u64 a0.ctrl, .int .u64 a0.fenced, .int .i64 a0.hold, .int .i64 a0.event, .slice A_12 a0.out.length c_13] : List Value))))).toArray 59 (0, 0))], X_15] _ rfl) (Hp.have1 hp_110 [[(b_1, .cells (([.slice A_2 a0.code.length c_3, .int .i64 a0.locs, .int .i64 a0.base, .slice A_5 a0.answers.length c_6] : List Value) ++ (cs_8 ++ (([] : List Value) ++ (cs_10 ++ ([.bool a0.less, .bool a0.same, .int .u64 a0.held, .int .u64 a0.ctrl, .int .u64 a0.fenced, .int .i64 a0.hold, .int .i64 a0.event, .slice A_12 a0.out.length c_13] : List Value))))).toArray 59 (0, 0))], X_15] _ rfl) (RdS.now q_4 hp_110) (RdS.now q_7 hp_110) q_9 q_11 q_14 hx_268) rfl ?_
   rintro v_ w_273 ⟨A_278, c_279, cs_281, cs_283, A_285, c_286, X_288, rfl, q_277, q_280, q_282, q_284, q_287, af_276⟩
   have hp_274 := Hp.callA af_276 hp_110
   have q_289 := q_277.up (Hp.down hp_110)
   have q_290 := q_280.up (Hp.down hp_110)
   refine k_nil ?_
   obtain rfl := Option.some.inj H
   exact ⟨r_270, _, A_278, c_279, cs_281, cs_283, A_285, c_286, X_288, rfl, seenF trivial, hp_274.pick [0, 1] (by decide) rfl, q_289, q_290, q_282, q_284, q_287⟩
  have H := iff_ h_266 H
  refine kq tb hp_110 [] [(232, .bool (decide (a1.Op = 11)))] (by kernel_rfl) fun σ => ?_
  refine k_if (tm rfl rfl) (fun h_309 => ?_) (fun h_309 => ?_)
  ·have H := ift h_309 H
   refine k_region ?_
   refine sr tb hp_110 [(0, 0, 0), (3, 2, 0), (7, 5, 0)] 9 [(234, .pointer (some ⟨b_1, 0, none⟩)), (235, .agg #[.int .i64 a1.Op, .int .i64 a1.T, .int .i64 a1.A, .int .i64 a1.B, .int .i64 a1.Imm]), (242, .agg #[.int .i64 (wrap64 (r_37.n + a1.Imm)), .int .u64 r_37.hang])] (by kernel_rfl) fun σ => ?_
   obtain ⟨r_312, hx_311, H⟩ := bindSome H
   rcases r_312 with p_314 | r_313
   ·refine s_pan (.cons (tm rfl rfl) (.cons (tm rfl rfl) (.cons (tm rfl rfl) .nil))) Try.call38 (thread_thread_store.callsP a0 b_1 A_2 c_3 A_5 c_6 cs_8 cs_10 A_12 c_13 X_15 a1 (⟨wrap64 (r_37.n + a1.Imm), r_37.hang⟩ : thread_cell) p_314 _ _ (Hp.offI hp_110 [[(b_1, .cells (([.slice A_2 a0.code.length c_3, .int .i64 a0.locs, .int .i64 a0.base, .slice A_5 a0.answers.length c_6] : List Value) ++ (cs_8 ++ (([] : List Value) ++ (cs_10 ++ ([.bool a0.less, .bool a0.same, .int .u64 a0.held, .int .u64 a0.ctrl, .int .u64 a0.fenced, .int .i64 a0.hold, .int .i64 a0.event, .slice A_12 a0.out.length c_13] : List Value))))).toArray 59 (0, 0))], X_15] _ rfl) (Hp.have1 hp_110 [[(b_1, .cells (([.slice A_2 a0.code.length c_3, .int .i64 a0.locs, .int .i64 a0.base, .slice A_5 a0.answers.length c_6] : List Value) ++ (cs_8 ++ (([] : List Value) ++ (cs_10 ++ ([.bool a0.less, .bool a0.same, .int .u64 a0.held, .int .u64 a0.ctrl, .int .u64 a0.fenced, .int .i64 a0.hold, .int .i64 a0.event, .slice A_12 a0.out.length c_13] : List Value))))).toArray 59 (0, 0))], X_15] _ rfl) (RdS.now q_4 hp_110) (RdS.now q_7 hp_110) q_9 q_11 q_14 hx_311) ?_
    rintro c_ w_332 ⟨cs_338, cs_340, A_342, c_343, X_345, rfl, q_336, q_337, q_339, q_341, q_344, af_335⟩
    have hp_333 := Hp.callA af_335 hp_110
    have q_346 := q_336.up (Hp.down hp_110)
    have q_347 := q_337.up (Hp.down hp_110)
    refine q_panic ?_
    obtain ⟨v_, H', hv_⟩ := mapSome H
    subst hv_
    have H := H'.trans (show some v_ = _ from G_112)
    obtain rfl := Option.some.inj H
    refine ⟨rfl, ?_⟩
    exact .inr ⟨_, rfl, _, rfl, ⟨A_5, c_6, cs_338, cs_340, A_342, c_343, X_345, rfl, q_346, q_347, q_339, q_341, q_344, (hp_333.pick [0, 1] (by decide) rfl).aft⟩⟩
   refine s_call (.cons (tm rfl rfl) (.cons (tm rfl rfl) (.cons (tm rfl rfl) .nil))) Try.call38 (thread_thread_store.calls a0 b_1 A_2 c_3 A_5 c_6 cs_8 cs_10 A_12 c_13 X_15 a1 (⟨wrap64 (r_37.n + a1.Imm), r_37.hang⟩ : thread_cell) r_313 _ _ (Hp.offI hp_110 [[(b_1, .cells (([.slice A_2 a0.code.length c_3, .int .i64 a0.locs, .int .i64 a0.base, .slice A_5 a0.answers.length c_6] : List Value) ++ (cs_8 ++ (([] : List Value) ++ (cs_10 ++ ([.bool a0.less, .bool a0.same, .int .u64 a0.held, .int .u64 a0.ctrl, .int .u64 a0.fenced, .int .i64 a0.hold, .int .i64 a0.event, .slice A_12 a0.out.length c_13] : List Value))))).toArray 59 (0, 0))], X_15] _ rfl) (Hp.have1 hp_110 [[(b_1, .cells (([.slice A_2 a0.code.length c_3, .int .i64 a0.locs, .int .i64 a0.base, .slice A_5 a0.answers.length c_6] : List Value) ++ (cs_8 ++ (([] : List Value) ++ (cs_10 ++ ([.bool a0.less, .bool a0.same, .int .u64 a0.held, .int .u64 a0.ctrl, .int .u64 a0.fenced, .int .i64 a0.hold, .int .i64 a0.event, .slice A_12 a0.out.length c_13] : List Value))))).toArray 59 (0, 0))], X_15] _ rfl) (RdS.now q_4 hp_110) (RdS.now q_7 hp_110) q_9 q_11 q_14 hx_311) rfl ?_
   rintro v_ w_316 ⟨cs_322, cs_324, A_326, c_327, X_329, rfl, q_320, q_321, q_323, q_325, q_328, af_319⟩
   have hp_317 := Hp.callA af_319 hp_110
   have q_330 := q_320.up (Hp.down hp_110)
   have q_331 := q_321.up (Hp.down hp_110)
   refine k_nil ?_
   obtain rfl := Option.some.inj H
   exact ⟨r_313, _, A_5, c_6, cs_322, cs_324, A_326, c_327, X_329, rfl, seenF trivial, hp_317.pick [0, 1] (by decide) rfl, q_330, q_331, q_323, q_325, q_328⟩
  have H := iff_ h_309 H
  refine k_seq ?_
  refine kq tb hp_110 [] [(244, .bool (decide (a1.Op = 12)))] (by kernel_rfl) fun σ => ?_
  obtain ⟨o_348, H, G_349⟩ := bindSome H
  refine k_cut (fun a w' => ∃ (σ_644 : Nat → Value), a = st 316 [(0, .pointer (some ⟨b_1, 0, none⟩)), (3, .pointer (some ⟨b_16, 0, none⟩)), (6, .pointer (some ⟨(gb_100 21), 0, none⟩)), (7, .pointer (some ⟨(gb_100 22), 0, none⟩)), (30, .int .i64 a1.Op), (244, .bool o_348)] σ_644 [] ∧ Hp (On [[(b_1, .cells (([.slice A_2 a0.code.length c_3, .int .i64 a0.locs, .int .i64 a0.base, .slice A_5 a0.answers.length c_6] : List Value) ++ (cs_8 ++ (([] : List Value) ++ (cs_10 ++ ([.bool a0.less, .bool a0.same, .int .u64 a0.held, .int .u64 a0.ctrl, .int .u64 a0.fenced, .int .i64 a0.hold, .int .i64 a0.event, .slice A_12 a0.out.length c_13] : List Value))))).toArray 59 (0, 0))], X_15]) F w w w' [[(b_1, .cells (([.slice A_2 a0.code.length c_3, .int .i64 a0.locs, .int .i64 a0.base, .slice A_5 a0.answers.length c_6] : List Value) ++ (cs_8 ++ (([] : List Value) ++ (cs_10 ++ ([.bool a0.less, .bool a0.same, .int .u64 a0.held, .int .u64 a0.ctrl, .int .u64 a0.fenced, .int .i64 a0.hold, .int .i64 a0.event, .slice A_12 a0.out.length c_13] : List Value))))).toArray 59 (0, 0))], X_15, [(b_16, .cells #[.int .i64 a1.Op, .int .i64 a1.T, .int .i64 a1.A, .int .i64 a1.B, .int .i64 a1.Imm] 44 (0, 0))], [((gb_100 21), .cells #[.int .i64 ((vg a0.regs a1.B).n), .int .u64 ((vg a0.regs a1.B).hang)] 55 (0, 0))], [((gb_100 22), .cells #[.int .i64 r_37.n, .int .u64 r_37.hang] 55 (0, 0))]]) ?_ ?_
  ·refine k_if (tm rfl rfl) (fun h_350 => ?_) (fun h_350 => ?_)
   ·have H := ift h_350 H
    refine k_skip ?_
    obtain rfl := Option.some.inj H
    exact ⟨_, seenF ⟨rfl, rfl, rfl, rfl, rfl, rfl, trivial⟩, hp_110.pick [0, 1, 2, 4, 5] (by decide) rfl⟩
   have H := iff_ h_350 H
   refine kr tb hp_110 [] [(244, .bool (decide (a1.Op = 14)))] (by kernel_rfl) fun σ => ?_
   obtain rfl := Option.some.inj H
   exact ⟨_, seenF ⟨rfl, rfl, rfl, rfl, rfl, rfl, trivial⟩, hp_110.pick [0, 1, 2, 4, 5] (by decide) rfl⟩
  clear H
  rintro a w' ⟨σ_351, rfl, hp_352⟩
  have H := G_349
  refine k_if (tm rfl rfl) (fun h_355 => ?_) (fun h_355 => ?_)
  ·as_aux_lemma =>
   have H := ift h_355 H
   refine k_anyF [[0, 1, 2, 3, 4], [0, 1, 2, 3, 4], [0, 1, 2, 3, 4], [0, 1, 2, 3, 4], [0, 1, 2, 3, 4], [0, 1, 2, 3, 4], [0, 1, 2, 3, 4], [0, 1, 2, 3, 4], [0, 1, 2, 3, 4], [0, 1, 2, 3, 4], [2, 3, 4]] [0, 0, 0, 4, 0, 16, 60, 0, 0, 508, 1023] mixed hp_352 11 (by kernel_rfl) (fun w_356 hp_357 => ?_)
   refine w_takes (f := 2) tb [0, 1, 2, 3, 4] (Wp.of hp_357 [0, 1, 2, 3, 4] rfl) [] [] [] [(0, 0, 0), (3, 2, 0), (6, 3, 0), (7, 4, 0)] [] [0, 2, 4, 1, 3, 5, 6, 7, 8] 511 [(247, .pointer (some ⟨b_1, 0, none⟩)), (248, .agg #[.int .i64 a1.Op, .int .i64 a1.T, .int .i64 a1.A, .int .i64 a1.B, .int .i64 a1.Imm]), (253, .int .i64 (wrap64 (r_37.n + ((vg a0.regs a1.B).n)))), (254, .agg #[.int .i64 r_37.n, .int .u64 r_37.hang]), (255, .agg #[.int .i64 ((vg a0.regs a1.B).n), .int .u64 ((vg a0.regs a1.B).hang)])] (fun _ => (po_then (po_x po_body))) rfl rfl (by kernel_rfl) fun σ => ?_
   refine w_one (m' := 1023) 9 rfl (by kernel_rfl) (by kernel_rfl) ?_
   refine s_call (.cons (tm rfl rfl) (.cons (tm rfl rfl) (.cons (tm rfl rfl) .nil))) Try.call35 (thread_two.calls (wrap64 (r_37.n + ((vg a0.regs a1.B).n))) r_37 (⟨(vg a0.regs a1.B).n, (vg a0.regs a1.B).hang⟩ : thread_cell) _) rfl ?_
   rintro v_ w_361 ⟨rfl, af_364⟩
   have hp_362 := Hp.callA af_364 hp_357
   refine k_nil ?_
   refine ⟨(Wp.of hp_362 [0, 1, 2, 3, 4] rfl), ?_⟩
   refine w_one (m' := 2047) 10 rfl (by kernel_rfl) (by kernel_rfl) ?_
   obtain ⟨r_367, hx_366, H⟩ := bindSome H
   rcases r_367 with p_369 | r_368
   ·refine s_pan (.cons (tm rfl rfl) (.cons (tm rfl rfl) (.cons (tm rfl rfl) .nil))) Try.call37 (thread_thread_load.callsP a0 b_1 A_2 c_3 A_5 c_6 cs_8 cs_10 A_12 c_13 X_15 a1 (⟨(thread_two.m (wrap64 (r_37.n + ((vg a0.regs a1.B).n))) r_37 (⟨(vg a0.regs a1.B).n, (vg a0.regs a1.B).hang⟩ : thread_cell)).n, (thread_two.m (wrap64 (r_37.n + ((vg a0.regs a1.B).n))) r_37 (⟨(vg a0.regs a1.B).n, (vg a0.regs a1.B).hang⟩ : thread_cell)).hang⟩ : thread_cell) p_369 _ _ (Hp.offI hp_362 [[(b_1, .cells (([.slice A_2 a0.code.length c_3, .int .i64 a0.locs, .int .i64 a0.base, .slice A_5 a0.answers.length c_6] : List Value) ++ (cs_8 ++ (([] : List Value) ++ (cs_10 ++ ([.bool a0.less, .bool a0.same, .int .u64 a0.held, .int .u64 a0.ctrl, .int .u64 a0.fenced, .int .i64 a0.hold, .int .i64 a0.event, .slice A_12 a0.out.length c_13] : List Value))))).toArray 59 (0, 0))], X_15] _ rfl) (Hp.have1 hp_362 [[(b_1, .cells (([.slice A_2 a0.code.length c_3, .int .i64 a0.locs, .int .i64 a0.base, .slice A_5 a0.answers.length c_6] : List Value) ++ (cs_8 ++ (([] : List Value) ++ (cs_10 ++ ([.bool a0.less, .bool a0.same, .int .u64 a0.held, .int .u64 a0.ctrl, .int .u64 a0.fenced, .int .i64 a0.hold, .int .i64 a0.event, .slice A_12 a0.out.length c_13] : List Value))))).toArray 59 (0, 0))], X_15] _ rfl) (RdS.now q_4 hp_362) (RdS.now q_7 hp_362) q_9 q_11 q_14 hx_366) ?_
    rintro c_ w_389 ⟨A_394, c_395, cs_397, cs_399, A_401, c_402, X_404, rfl, q_393, q_396, q_398, q_400, q_403, af_392⟩
    have hp_390 := Hp.callA af_392 hp_362
    have q_405 := q_393.up (Hp.down hp_362)
    have q_406 := q_396.up (Hp.down hp_362)
    refine q_then ?_
    refine q_panic ?_
    obtain ⟨v_, H', hv_⟩ := mapSome H
    subst hv_
    have H := H'.trans (show some v_ = _ from G_112)
    obtain rfl := Option.some.inj H
    refine ⟨rfl, ?_⟩
    exact .inr ⟨_, rfl, _, rfl, ⟨A_394, c_395, cs_397, cs_399, A_401, c_402, X_404, rfl, q_405, q_406, q_398, q_400, q_403, (hp_390.pick [0, 1] (by decide) rfl).aft⟩⟩
   refine s_call (.cons (tm rfl rfl) (.cons (tm rfl rfl) (.cons (tm rfl rfl) .nil))) Try.call37 (thread_thread_load.calls a0 b_1 A_2 c_3 A_5 c_6 cs_8 cs_10 A_12 c_13 X_15 a1 (⟨(thread_two.m (wrap64 (r_37.n + ((vg a0.regs a1.B).n))) r_37 (⟨(vg a0.regs a1.B).n, (vg a0.regs a1.B).hang⟩ : thread_cell)).n, (thread_two.m (wrap64 (r_37.n + ((vg a0.regs a1.B).n))) r_37 (⟨(vg a0.regs a1.B).n, (vg a0.regs a1.B).hang⟩ : thread_cell)).hang⟩ : thread_cell) r_368 _ _ (Hp.offI hp_362 [[(b_1, .cells (([.slice A_2 a0.code.length c_3, .int .i64 a0.locs, .int .i64 a0.base, .slice A_5 a0.answers.length c_6] : List Value) ++ (cs_8 ++ (([] : List Value) ++ (cs_10 ++ ([.bool a0.less, .bool a0.same, .int .u64 a0.held, .int .u64 a0.ctrl, .int .u64 a0.fenced, .int .i64 a0.hold, .int .i64 a0.event, .slice A_12 a0.out.length c_13] : List Value))))).toArray 59 (0, 0))], X_15] _ rfl) (Hp.have1 hp_362 [[(b_1, .cells (([.slice A_2 a0.code.length c_3, .int .i64 a0.locs, .int .i64 a0.base, .slice A_5 a0.answers.length c_6] : List Value) ++ (cs_8 ++ (([] : List Value) ++ (cs_10 ++ ([.bool a0.less, .bool a0.same, .int .u64 a0.held, .int .u64 a0.ctrl, .int .u64 a0.fenced, .int .i64 a0.hold, .int .i64 a0.event, .slice A_12 a0.out.length c_13] : List Value))))).toArray 59 (0, 0))], X_15] _ rfl) (RdS.now q_4 hp_362) (RdS.now q_7 hp_362) q_9 q_11 q_14 hx_366) rfl ?_
   rintro v_ w_371 ⟨A_376, c_377, cs_379, cs_381, A_383, c_384, X_386, rfl, q_375, q_378, q_380, q_382, q_385, af_374⟩
   have hp_372 := Hp.callA af_374 hp_362
   have q_387 := q_375.up (Hp.down hp_362)
   have q_388 := q_378.up (Hp.down hp_362)
   refine k_nil ?_
   refine ⟨(Wp.of hp_372 [2, 3, 4] rfl), ?_⟩
   refine w_done (by kernel_rfl) ?_
   obtain rfl := Option.some.inj H
   exact ⟨r_368, _, A_376, c_377, cs_379, cs_381, A_383, c_384, X_386, rfl, seenF trivial, hp_372.pick [0, 1] (by decide) rfl, q_387, q_388, q_380, q_382, q_385⟩
  have H := iff_ h_355 H
  refine k_seq ?_
  refine kq tb hp_352 [] [(258, .bool (decide (a1.Op = 13)))] (by kernel_rfl) fun σ => ?_
  obtain ⟨o_407, H, G_408⟩ := bindSome H
  refine k_cut (fun a w' => ∃ (σ_643 : Nat → Value), a = st 316 [(0, .pointer (some ⟨b_1, 0, none⟩)), (3, .pointer (some ⟨b_16, 0, none⟩)), (6, .pointer (some ⟨(gb_100 21), 0, none⟩)), (7, .pointer (some ⟨(gb_100 22), 0, none⟩)), (30, .int .i64 a1.Op), (258, .bool o_407)] σ_643 [] ∧ Hp (On [[(b_1, .cells (([.slice A_2 a0.code.length c_3, .int .i64 a0.locs, .int .i64 a0.base, .slice A_5 a0.answers.length c_6] : List Value) ++ (cs_8 ++ (([] : List Value) ++ (cs_10 ++ ([.bool a0.less, .bool a0.same, .int .u64 a0.held, .int .u64 a0.ctrl, .int .u64 a0.fenced, .int .i64 a0.hold, .int .i64 a0.event, .slice A_12 a0.out.length c_13] : List Value))))).toArray 59 (0, 0))], X_15]) F w w w' [[(b_1, .cells (([.slice A_2 a0.code.length c_3, .int .i64 a0.locs, .int .i64 a0.base, .slice A_5 a0.answers.length c_6] : List Value) ++ (cs_8 ++ (([] : List Value) ++ (cs_10 ++ ([.bool a0.less, .bool a0.same, .int .u64 a0.held, .int .u64 a0.ctrl, .int .u64 a0.fenced, .int .i64 a0.hold, .int .i64 a0.event, .slice A_12 a0.out.length c_13] : List Value))))).toArray 59 (0, 0))], X_15, [(b_16, .cells #[.int .i64 a1.Op, .int .i64 a1.T, .int .i64 a1.A, .int .i64 a1.B, .int .i64 a1.Imm] 44 (0, 0))], [((gb_100 21), .cells #[.int .i64 ((vg a0.regs a1.B).n), .int .u64 ((vg a0.regs a1.B).hang)] 55 (0, 0))], [((gb_100 22), .cells #[.int .i64 r_37.n, .int .u64 r_37.hang] 55 (0, 0))]]) ?_ ?_
  ·refine k_if (tm rfl rfl) (fun h_409 => ?_) (fun h_409 => ?_)
   ·have H := ift h_409 H
    refine k_skip ?_
    obtain rfl := Option.some.inj H
    exact ⟨_, seenF ⟨rfl, rfl, rfl, rfl, rfl, rfl, trivial⟩, hp_352⟩
   have H := iff_ h_409 H
   refine kr tb hp_352 [] [(258, .bool (decide (a1.Op = 15)))] (by kernel_rfl) fun σ => ?_
   obtain rfl := Option.some.inj H
   exact ⟨_, seenF ⟨rfl, rfl, rfl, rfl, rfl, rfl, trivial⟩, hp_352⟩
  clear H
  rintro a w' ⟨σ_410, rfl, hp_411⟩
  have H := G_408
  refine k_if (tm rfl rfl) (fun h_414 => ?_) (fun h_414 => ?_)
  ·as_aux_lemma =>
   have H := ift h_414 H
   refine k_anyF [[0, 1, 2, 3, 4], [0, 1, 2, 3, 4], [0, 1, 2, 3, 4], [0, 1, 2, 3, 4], [0, 1, 2, 3, 4], [0, 1, 2, 3, 4], [0, 1, 2, 3, 4], [0, 1, 2, 3, 4], [0, 1, 2, 3, 4], [0, 1, 2, 3, 4], [2, 3, 4]] [0, 0, 0, 4, 0, 16, 60, 0, 0, 508, 1023] mixed hp_411 11 (by kernel_rfl) (fun w_415 hp_416 => ?_)
   refine w_takes (f := 2) tb [0, 1, 2, 3, 4] (Wp.of hp_416 [0, 1, 2, 3, 4] rfl) [] [] [] [(0, 0, 0), (3, 2, 0), (6, 3, 0), (7, 4, 0)] [] [0, 2, 4, 1, 3, 5, 6, 7, 8] 511 [(261, .pointer (some ⟨b_1, 0, none⟩)), (262, .agg #[.int .i64 a1.Op, .int .i64 a1.T, .int .i64 a1.A, .int .i64 a1.B, .int .i64 a1.Imm]), (267, .int .i64 (wrap64 (r_37.n + ((vg a0.regs a1.B).n)))), (268, .agg #[.int .i64 r_37.n, .int .u64 r_37.hang]), (269, .agg #[.int .i64 ((vg a0.regs a1.B).n), .int .u64 ((vg a0.regs a1.B).hang)])] (fun _ => (po_then (po_x po_body))) rfl rfl (by kernel_rfl) fun σ => ?_
   refine w_one (m' := 1023) 9 rfl (by kernel_rfl) (by kernel_rfl) ?_
   refine s_call (.cons (tm rfl rfl) (.cons (tm rfl rfl) (.cons (tm rfl rfl) .nil))) Try.call35 (thread_two.calls (wrap64 (r_37.n + ((vg a0.regs a1.B).n))) r_37 (⟨(vg a0.regs a1.B).n, (vg a0.regs a1.B).hang⟩ : thread_cell) _) rfl ?_
   rintro v_ w_420 ⟨rfl, af_423⟩
   have hp_421 := Hp.callA af_423 hp_416
   refine k_nil ?_
   refine ⟨(Wp.of hp_421 [0, 1, 2, 3, 4] rfl), ?_⟩
   refine w_one (m' := 2047) 10 rfl (by kernel_rfl) (by kernel_rfl) ?_
   obtain ⟨r_426, hx_425, H⟩ := bindSome H
   rcases r_426 with p_428 | r_427
   ·refine s_pan (.cons (tm rfl rfl) (.cons (tm rfl rfl) (.cons (tm rfl rfl) .nil))) Try.call38 (thread_thread_store.callsP a0 b_1 A_2 c_3 A_5 c_6 cs_8 cs_10 A_12 c_13 X_15 a1 (⟨(thread_two.m (wrap64 (r_37.n + ((vg a0.regs a1.B).n))) r_37 (⟨(vg a0.regs a1.B).n, (vg a0.regs a1.B).hang⟩ : thread_cell)).n, (thread_two.m (wrap64 (r_37.n + ((vg a0.regs a1.B).n))) r_37 (⟨(vg a0.regs a1.B).n, (vg a0.regs a1.B).hang⟩ : thread_cell)).hang⟩ : thread_cell) p_428 _ _ (Hp.offI hp_421 [[(b_1, .cells (([.slice A_2 a0.code.length c_3, .int .i64 a0.locs, .int .i64 a0.base, .slice A_5 a0.answers.length c_6] : List Value) ++ (cs_8 ++ (([] : List Value) ++ (cs_10 ++ ([.bool a0.less, .bool a0.same, .int .u64 a0.held, .int .u64 a0.ctrl, .int .u64 a0.fenced, .int .i64 a0.hold, .int .i64 a0.event, .slice A_12 a0.out.length c_13] : List Value))))).toArray 59 (0, 0))], X_15] _ rfl) (Hp.have1 hp_421 [[(b_1, .cells (([.slice A_2 a0.code.length c_3, .int .i64 a0.locs, .int .i64 a0.base, .slice A_5 a0.answers.length c_6] : List Value) ++ (cs_8 ++ (([] : List Value) ++ (cs_10 ++ ([.bool a0.less, .bool a0.same, .int .u64 a0.held, .int .u64 a0.ctrl, .int .u64 a0.fenced, .int .i64 a0.hold, .int .i64 a0.event, .slice A_12 a0.out.length c_13] : List Value))))).toArray 59 (0, 0))], X_15] _ rfl) (RdS.now q_4 hp_421) (RdS.now q_7 hp_421) q_9 q_11 q_14 hx_425) ?_
    rintro c_ w_446 ⟨cs_452, cs_454, A_456, c_457, X_459, rfl, q_450, q_451, q_453, q_455, q_458, af_449⟩
    have hp_447 := Hp.callA af_449 hp_421
    have q_460 := q_450.up (Hp.down hp_421)
    have q_461 := q_451.up (Hp.down hp_421)
    refine q_then ?_
    refine q_panic ?_
    obtain ⟨v_, H', hv_⟩ := mapSome H
    subst hv_
    have H := H'.trans (show some v_ = _ from G_112)
    obtain rfl := Option.some.inj H
    refine ⟨rfl, ?_⟩
    exact .inr ⟨_, rfl, _, rfl, ⟨A_5, c_6, cs_452, cs_454, A_456, c_457, X_459, rfl, q_460, q_461, q_453, q_455, q_458, (hp_447.pick [0, 1] (by decide) rfl).aft⟩⟩
   refine s_call (.cons (tm rfl rfl) (.cons (tm rfl rfl) (.cons (tm rfl rfl) .nil))) Try.call38 (thread_thread_store.calls a0 b_1 A_2 c_3 A_5 c_6 cs_8 cs_10 A_12 c_13 X_15 a1 (⟨(thread_two.m (wrap64 (r_37.n + ((vg a0.regs a1.B).n))) r_37 (⟨(vg a0.regs a1.B).n, (vg a0.regs a1.B).hang⟩ : thread_cell)).n, (thread_two.m (wrap64 (r_37.n + ((vg a0.regs a1.B).n))) r_37 (⟨(vg a0.regs a1.B).n, (vg a0.regs a1.B).hang⟩ : thread_cell)).hang⟩ : thread_cell) r_427 _ _ (Hp.offI hp_421 [[(b_1, .cells (([.slice A_2 a0.code.length c_3, .int .i64 a0.locs, .int .i64 a0.base, .slice A_5 a0.answers.length c_6] : List Value) ++ (cs_8 ++ (([] : List Value) ++ (cs_10 ++ ([.bool a0.less, .bool a0.same, .int .u64 a0.held, .int .u64 a0.ctrl, .int .u64 a0.fenced, .int .i64 a0.hold, .int .i64 a0.event, .slice A_12 a0.out.length c_13] : List Value))))).toArray 59 (0, 0))], X_15] _ rfl) (Hp.have1 hp_421 [[(b_1, .cells (([.slice A_2 a0.code.length c_3, .int .i64 a0.locs, .int .i64 a0.base, .slice A_5 a0.answers.length c_6] : List Value) ++ (cs_8 ++ (([] : List Value) ++ (cs_10 ++ ([.bool a0.less, .bool a0.same, .int .u64 a0.held, .int .u64 a0.ctrl, .int .u64 a0.fenced, .int .i64 a0.hold, .int .i64 a0.event, .slice A_12 a0.out.length c_13] : List Value))))).toArray 59 (0, 0))], X_15] _ rfl) (RdS.now q_4 hp_421) (RdS.now q_7 hp_421) q_9 q_11 q_14 hx_425) rfl ?_
   rintro v_ w_430 ⟨cs_436, cs_438, A_440, c_441, X_443, rfl, q_434, q_435, q_437, q_439, q_442, af_433⟩
   have hp_431 := Hp.callA af_433 hp_421
   have q_444 := q_434.up (Hp.down hp_421)
   have q_445 := q_435.up (Hp.down hp_421)
   refine k_nil ?_
   refine ⟨(Wp.of hp_431 [2, 3, 4] rfl), ?_⟩
   refine w_done (by kernel_rfl) ?_
   obtain rfl := Option.some.inj H
   exact ⟨r_427, _, A_5, c_6, cs_436, cs_438, A_440, c_441, X_443, rfl, seenF trivial, hp_431.pick [0, 1] (by decide) rfl, q_444, q_445, q_437, q_439, q_442⟩
  have H := iff_ h_414 H
  refine kq tb hp_411 [] [(272, .bool (decide (a1.Op = 18)))] (by kernel_rfl) fun σ => ?_
  refine k_if (tm rfl rfl) (fun h_462 => ?_) (fun h_462 => ?_)
  ·have H := ift h_462 H
   refine k_seq ?_
   refine k_region ?_
   refine sr tb hp_411 [(0, 0, 0), (3, 2, 0)] 3 [(274, .pointer (some ⟨b_1, 0, none⟩)), (276, .int .i64 a1.T)] (by kernel_rfl) fun σ => ?_
   refine s_call (.cons (tm rfl rfl) (.cons (tm rfl rfl) .nil)) Try.call39 (thread_thread_branch.calls a0 b_1 A_2 c_3 A_5 c_6 cs_8 cs_10 A_12 c_13 X_15 a1.T _ _ (Hp.offI hp_411 [[(b_1, .cells (([.slice A_2 a0.code.length c_3, .int .i64 a0.locs, .int .i64 a0.base, .slice A_5 a0.answers.length c_6] : List Value) ++ (cs_8 ++ (([] : List Value) ++ (cs_10 ++ ([.bool a0.less, .bool a0.same, .int .u64 a0.held, .int .u64 a0.ctrl, .int .u64 a0.fenced, .int .i64 a0.hold, .int .i64 a0.event, .slice A_12 a0.out.length c_13] : List Value))))).toArray 59 (0, 0))], X_15] _ rfl) (Hp.have1 hp_411 [[(b_1, .cells (([.slice A_2 a0.code.length c_3, .int .i64 a0.locs, .int .i64 a0.base, .slice A_5 a0.answers.length c_6] : List Value) ++ (cs_8 ++ (([] : List Value) ++ (cs_10 ++ ([.bool a0.less, .bool a0.same, .int .u64 a0.held, .int .u64 a0.ctrl, .int .u64 a0.fenced, .int .i64 a0.hold, .int .i64 a0.event, .slice A_12 a0.out.length c_13] : List Value))))).toArray 59 (0, 0))], X_15] _ rfl) (RdS.now q_4 hp_411) (RdS.now q_7 hp_411) q_9 q_11 q_14) rfl ?_
   rintro v_ w_466 ⟨cs_472, cs_474, X_477, rfl, q_470, q_471, q_473, q_475, q_476, af_469⟩
   have hp_467 := Hp.callA af_469 hp_411
   have q_478 := q_470.up (Hp.down hp_411)
   have q_479 := q_471.up (Hp.down hp_411)
   refine k_nil ?_
   refine k_if (tm rfl rfl) (fun h_480 => ?_) (fun h_480 => ?_)
   ·have H := ift h_480 H
    refine kq tb hp_467 [(3, 2, 0)] [(4, .int .i64 (wrap64 (Int.tdiv a1.Imm 4)))] (by kernel_rfl) fun σ => ?_
    refine k_ret ?_
    refine q_ret ?_
    obtain ⟨v_, H', hv_⟩ := mapSome H
    subst hv_
    have H := H'.trans (show some v_ = _ from G_112)
    obtain rfl := Option.some.inj H
    exact k_endP rfl (.tmp rfl rfl .nil) rfl ⟨_, rfl, ⟨A_5, c_6, cs_472, cs_474, A_12, c_13, X_477, rfl, q_478, q_479, q_473, q_475, q_476, (hp_467.pick [0, 1] (by decide) rfl).aft⟩⟩
   have H := iff_ h_480 H
   refine k_skip ?_
   obtain rfl := Option.some.inj H
   exact ⟨(thread_thread_branch.m a0 a1.T).2, _, A_5, c_6, cs_472, cs_474, A_12, c_13, X_477, rfl, seenF trivial, hp_467.pick [0, 1] (by decide) rfl, q_478, q_479, q_473, q_475, q_476⟩
  have H := iff_ h_462 H
  refine kq tb hp_411 [] [(281, .bool (decide (a1.Op = 19)))] (by kernel_rfl) fun σ => ?_
  refine k_if (tm rfl rfl) (fun h_481 => ?_) (fun h_481 => ?_)
  ·have H := ift h_481 H
   refine kq tb hp_411 [(3, 2, 0)] [(4, .int .i64 (wrap64 (Int.tdiv a1.Imm 4)))] (by kernel_rfl) fun σ => ?_
   refine k_ret ?_
   refine q_ret ?_
   obtain ⟨v_, H', hv_⟩ := mapSome H
   subst hv_
   have H := H'.trans (show some v_ = _ from G_112)
   obtain rfl := Option.some.inj H
   exact k_endP rfl (.tmp rfl rfl .nil) rfl ⟨_, rfl, ⟨A_5, c_6, cs_8, cs_10, A_12, c_13, X_15, rfl, q_4, q_7, q_9, q_11, q_14, (hp_411.pick [0, 1] (by decide) rfl).aft⟩⟩
  have H := iff_ h_481 H
  refine kq tb hp_411 [] [(286, .bool (decide (a1.Op = 20)))] (by kernel_rfl) fun σ => ?_
  refine k_if (tm rfl rfl) (fun h_482 => ?_) (fun h_482 => ?_)
  ·have H := ift h_482 H
   refine k_region ?_
   refine sr tb hp_411 [(0, 0, 0)] 2 [(288, .pointer (some ⟨b_1, 0, none⟩)), (289, .agg #[.int .i64 3, .int .i64 0, .int .i64 0, .int .i64 0, .int .u64 0, .int .u64 0, .int .u64 0, .int .u64 0])] (by kernel_rfl) fun σ => ?_
   obtain ⟨r_485, hx_484, H⟩ := bindSome H
   rcases r_485 with p_487 | r_486
   ·refine s_pan (.cons (tm rfl rfl) (.cons (tm rfl rfl) .nil)) Try.call40 (thread_thread_tell.callsP a0 b_1 A_2 c_3 A_5 c_6 cs_8 cs_10 A_12 c_13 X_15 (⟨3, 0, 0, 0, 0, 0, 0, 0⟩ : api_Event) p_487 _ _ (Hp.offI hp_411 [[(b_1, .cells (([.slice A_2 a0.code.length c_3, .int .i64 a0.locs, .int .i64 a0.base, .slice A_5 a0.answers.length c_6] : List Value) ++ (cs_8 ++ (([] : List Value) ++ (cs_10 ++ ([.bool a0.less, .bool a0.same, .int .u64 a0.held, .int .u64 a0.ctrl, .int .u64 a0.fenced, .int .i64 a0.hold, .int .i64 a0.event, .slice A_12 a0.out.length c_13] : List Value))))).toArray 59 (0, 0))], X_15] _ rfl) (Hp.have1 hp_411 [[(b_1, .cells (([.slice A_2 a0.code.length c_3, .int .i64 a0.locs, .int .i64 a0.base, .slice A_5 a0.answers.length c_6] : List Value) ++ (cs_8 ++ (([] : List Value) ++ (cs_10 ++ ([.bool a0.less, .bool a0.same, .int .u64 a0.held, .int .u64 a0.ctrl, .int .u64 a0.fenced, .int .i64 a0.hold, .int .i64 a0.event, .slice A_12 a0.out.length c_13] : List Value))))).toArray 59 (0, 0))], X_15] _ rfl) (RdS.now q_4 hp_411) (RdS.now q_7 hp_411) q_9 q_11 q_14 hx_484) ?_
    rintro c_ w_505 ⟨cs_511, cs_513, A_515, c_516, X_518, rfl, q_509, q_510, q_512, q_514, q_517, af_508⟩
    have hp_506 := Hp.callA af_508 hp_411
    have q_519 := q_509.up (Hp.down hp_411)
    have q_520 := q_510.up (Hp.down hp_411)
    refine q_panic ?_
    obtain ⟨v_, H', hv_⟩ := mapSome H
    subst hv_
    have H := H'.trans (show some v_ = _ from G_112)
    obtain rfl := Option.some.inj H
    refine ⟨rfl, ?_⟩
    exact .inr ⟨_, rfl, _, rfl, ⟨A_5, c_6, cs_511, cs_513, A_515, c_516, X_518, rfl, q_519, q_520, q_512, q_514, q_517, (hp_506.pick [0, 1] (by decide) rfl).aft⟩⟩
   refine s_call (.cons (tm rfl rfl) (.cons (tm rfl rfl) .nil)) Try.call40 (thread_thread_tell.calls a0 b_1 A_2 c_3 A_5 c_6 cs_8 cs_10 A_12 c_13 X_15 (⟨3, 0, 0, 0, 0, 0, 0, 0⟩ : api_Event) r_486 _ _ (Hp.offI hp_411 [[(b_1, .cells (([.slice A_2 a0.code.length c_3, .int .i64 a0.locs, .int .i64 a0.base, .slice A_5 a0.answers.length c_6] : List Value) ++ (cs_8 ++ (([] : List Value) ++ (cs_10 ++ ([.bool a0.less, .bool a0.same, .int .u64 a0.held, .int .u64 a0.ctrl, .int .u64 a0.fenced, .int .i64 a0.hold, .int .i64 a0.event, .slice A_12 a0.out.length c_13] : List Value))))).toArray 59 (0, 0))], X_15] _ rfl) (Hp.have1 hp_411 [[(b_1, .cells (([.slice A_2 a0.code.length c_3, .int .i64 a0.locs, .int .i64 a0.base, .slice A_5 a0.answers.length c_6] : List Value) ++ (cs_8 ++ (([] : List Value) ++ (cs_10 ++ ([.bool a0.less, .bool a0.same, .int .u64 a0.held, .int .u64 a0.ctrl, .int .u64 a0.fenced, .int .i64 a0.hold, .int .i64 a0.event, .slice A_12 a0.out.length c_13] : List Value))))).toArray 59 (0, 0))], X_15] _ rfl) (RdS.now q_4 hp_411) (RdS.now q_7 hp_411) q_9 q_11 q_14 hx_484) rfl ?_
   rintro v_ w_489 ⟨cs_495, cs_497, A_499, c_500, X_502, rfl, q_493, q_494, q_496, q_498, q_501, af_492⟩
   have hp_490 := Hp.callA af_492 hp_411
   have q_503 := q_493.up (Hp.down hp_411)
   have q_504 := q_494.up (Hp.down hp_411)
   refine k_nil ?_
   obtain rfl := Option.some.inj H
   exact ⟨r_486, _, A_5, c_6, cs_495, cs_497, A_499, c_500, X_502, rfl, seenF trivial, hp_490.pick [0, 1] (by decide) rfl, q_503, q_504, q_496, q_498, q_501⟩
  have H := iff_ h_482 H
  refine kq tb hp_411 [] [(291, .bool (decide (a1.Op = 21)))] (by kernel_rfl) fun σ => ?_
  refine k_if (tm rfl rfl) (fun h_521 => ?_) (fun h_521 => ?_)
  ·have H := ift h_521 H
   refine k_region ?_
   refine sr tb hp_411 [(0, 0, 0)] 2 [(293, .pointer (some ⟨b_1, 0, none⟩)), (294, .agg #[.int .i64 4, .int .i64 0, .int .i64 0, .int .i64 0, .int .u64 0, .int .u64 0, .int .u64 0, .int .u64 0])] (by kernel_rfl) fun σ => ?_
   obtain ⟨r_524, hx_523, H⟩ := bindSome H
   rcases r_524 with p_526 | r_525
   ·refine s_pan (.cons (tm rfl rfl) (.cons (tm rfl rfl) .nil)) Try.call40 (thread_thread_tell.callsP a0 b_1 A_2 c_3 A_5 c_6 cs_8 cs_10 A_12 c_13 X_15 (⟨4, 0, 0, 0, 0, 0, 0, 0⟩ : api_Event) p_526 _ _ (Hp.offI hp_411 [[(b_1, .cells (([.slice A_2 a0.code.length c_3, .int .i64 a0.locs, .int .i64 a0.base, .slice A_5 a0.answers.length c_6] : List Value) ++ (cs_8 ++ (([] : List Value) ++ (cs_10 ++ ([.bool a0.less, .bool a0.same, .int .u64 a0.held, .int .u64 a0.ctrl, .int .u64 a0.fenced, .int .i64 a0.hold, .int .i64 a0.event, .slice A_12 a0.out.length c_13] : List Value))))).toArray 59 (0, 0))], X_15] _ rfl) (Hp.have1 hp_411 [[(b_1, .cells (([.slice A_2 a0.code.length c_3, .int .i64 a0.locs, .int .i64 a0.base, .slice A_5 a0.answers.length c_6] : List Value) ++ (cs_8 ++ (([] : List Value) ++ (cs_10 ++ ([.bool a0.less, .bool a0.same, .int .u64 a0.held, .int .u64 a0.ctrl, .int .u64 a0.fenced, .int .i64 a0.hold, .int .i64 a0.event, .slice A_12 a0.out.length c_13] : List Value))))).toArray 59 (0, 0))], X_15] _ rfl) (RdS.now q_4 hp_411) (RdS.now q_7 hp_411) q_9 q_11 q_14 hx_523) ?_
    rintro c_ w_544 ⟨cs_550, cs_552, A_554, c_555, X_557, rfl, q_548, q_549, q_551, q_553, q_556, af_547⟩
    have hp_545 := Hp.callA af_547 hp_411
    have q_558 := q_548.up (Hp.down hp_411)
    have q_559 := q_549.up (Hp.down hp_411)
    refine q_panic ?_
    obtain ⟨v_, H', hv_⟩ := mapSome H
    subst hv_
    have H := H'.trans (show some v_ = _ from G_112)
    obtain rfl := Option.some.inj H
    refine ⟨rfl, ?_⟩
    exact .inr ⟨_, rfl, _, rfl, ⟨A_5, c_6, cs_550, cs_552, A_554, c_555, X_557, rfl, q_558, q_559, q_551, q_553, q_556, (hp_545.pick [0, 1] (by decide) rfl).aft⟩⟩
   refine s_call (.cons (tm rfl rfl) (.cons (tm rfl rfl) .nil)) Try.call40 (thread_thread_tell.calls a0 b_1 A_2 c_3 A_5 c_6 cs_8 cs_10 A_12 c_13 X_15 (⟨4, 0, 0, 0, 0, 0, 0, 0⟩ : api_Event) r_525 _ _ (Hp.offI hp_411 [[(b_1, .cells (([.slice A_2 a0.code.length c_3, .int .i64 a0.locs, .int .i64 a0.base, .slice A_5 a0.answers.length c_6] : List Value) ++ (cs_8 ++ (([] : List Value) ++ (cs_10 ++ ([.bool a0.less, .bool a0.same, .int .u64 a0.held, .int .u64 a0.ctrl, .int .u64 a0.fenced, .int .i64 a0.hold, .int .i64 a0.event, .slice A_12 a0.out.length c_13] : List Value))))).toArray 59 (0, 0))], X_15] _ rfl) (Hp.have1 hp_411 [[(b_1, .cells (([.slice A_2 a0.code.length c_3, .int .i64 a0.locs, .int .i64 a0.base, .slice A_5 a0.answers.length c_6] : List Value) ++ (cs_8 ++ (([] : List Value) ++ (cs_10 ++ ([.bool a0.less, .bool a0.same, .int .u64 a0.held, .int .u64 a0.ctrl, .int .u64 a0.fenced, .int .i64 a0.hold, .int .i64 a0.event, .slice A_12 a0.out.length c_13] : List Value))))).toArray 59 (0, 0))], X_15] _ rfl) (RdS.now q_4 hp_411) (RdS.now q_7 hp_411) q_9 q_11 q_14 hx_523) rfl ?_
   rintro v_ w_528 ⟨cs_534, cs_536, A_538, c_539, X_541, rfl, q_532, q_533, q_535, q_537, q_540, af_531⟩
   have hp_529 := Hp.callA af_531 hp_411
   have q_542 := q_532.up (Hp.down hp_411)
   have q_543 := q_533.up (Hp.down hp_411)
   refine k_nil ?_
   obtain rfl := Option.some.inj H
   exact ⟨r_525, _, A_5, c_6, cs_534, cs_536, A_538, c_539, X_541, rfl, seenF trivial, hp_529.pick [0, 1] (by decide) rfl, q_542, q_543, q_535, q_537, q_540⟩
  have H := iff_ h_521 H
  refine kq tb hp_411 [] [(296, .bool (decide (a1.Op = 22)))] (by kernel_rfl) fun σ => ?_
  refine k_if (tm rfl rfl) (fun h_560 => ?_) (fun h_560 => ?_)
  ·as_aux_lemma =>
   have H := ift h_560 H
   refine k_seq ?_
   refine k_region ?_
   refine sr tb hp_411 [(0, 0, 0)] 2 [(298, .pointer (some ⟨b_1, 0, none⟩)), (299, .agg #[.int .i64 5, .int .i64 0, .int .i64 0, .int .i64 0, .int .u64 0, .int .u64 0, .int .u64 0, .int .u64 0])] (by kernel_rfl) fun σ => ?_
   obtain ⟨r_563, hx_562, H⟩ := bindSome H
   rcases r_563 with p_565 | r_564
   ·refine s_pan (.cons (tm rfl rfl) (.cons (tm rfl rfl) .nil)) Try.call40 (thread_thread_tell.callsP a0 b_1 A_2 c_3 A_5 c_6 cs_8 cs_10 A_12 c_13 X_15 (⟨5, 0, 0, 0, 0, 0, 0, 0⟩ : api_Event) p_565 _ _ (Hp.offI hp_411 [[(b_1, .cells (([.slice A_2 a0.code.length c_3, .int .i64 a0.locs, .int .i64 a0.base, .slice A_5 a0.answers.length c_6] : List Value) ++ (cs_8 ++ (([] : List Value) ++ (cs_10 ++ ([.bool a0.less, .bool a0.same, .int .u64 a0.held, .int .u64 a0.ctrl, .int .u64 a0.fenced, .int .i64 a0.hold, .int .i64 a0.event, .slice A_12 a0.out.length c_13] : List Value))))).toArray 59 (0, 0))], X_15] _ rfl) (Hp.have1 hp_411 [[(b_1, .cells (([.slice A_2 a0.code.length c_3, .int .i64 a0.locs, .int .i64 a0.base, .slice A_5 a0.answers.length c_6] : List Value) ++ (cs_8 ++ (([] : List Value) ++ (cs_10 ++ ([.bool a0.less, .bool a0.same, .int .u64 a0.held, .int .u64 a0.ctrl, .int .u64 a0.fenced, .int .i64 a0.hold, .int .i64 a0.event, .slice A_12 a0.out.length c_13] : List Value))))).toArray 59 (0, 0))], X_15] _ rfl) (RdS.now q_4 hp_411) (RdS.now q_7 hp_411) q_9 q_11 q_14 hx_562) ?_
    rintro c_ w_587 ⟨cs_593, cs_595, A_597, c_598, X_600, rfl, q_591, q_592, q_594, q_596, q_599, af_590⟩
    have hp_588 := Hp.callA af_590 hp_411
    have q_601 := q_591.up (Hp.down hp_411)
    have q_602 := q_592.up (Hp.down hp_411)
    refine q_panic ?_
    obtain ⟨v_, H', hv_⟩ := mapSome H
    subst hv_
    have H := H'.trans (show some v_ = _ from G_112)
    obtain rfl := Option.some.inj H
    refine ⟨rfl, ?_⟩
    exact .inr ⟨_, rfl, _, rfl, ⟨A_5, c_6, cs_593, cs_595, A_597, c_598, X_600, rfl, q_601, q_602, q_594, q_596, q_599, (hp_588.pick [0, 1] (by decide) rfl).aft⟩⟩
   refine s_call (.cons (tm rfl rfl) (.cons (tm rfl rfl) .nil)) Try.call40 (thread_thread_tell.calls a0 b_1 A_2 c_3 A_5 c_6 cs_8 cs_10 A_12 c_13 X_15 (⟨5, 0, 0, 0, 0, 0, 0, 0⟩ : api_Event) r_564 _ _ (Hp.offI hp_411 [[(b_1, .cells (([.slice A_2 a0.code.length c_3, .int .i64 a0.locs, .int .i64 a0.base, .slice A_5 a0.answers.length c_6] : List Value) ++ (cs_8 ++ (([] : List Value) ++ (cs_10 ++ ([.bool a0.less, .bool a0.same, .int .u64 a0.held, .int .u64 a0.ctrl, .int .u64 a0.fenced, .int .i64 a0.hold, .int .i64 a0.event, .slice A_12 a0.out.length c_13] : List Value))))).toArray 59 (0, 0))], X_15] _ rfl) (Hp.have1 hp_411 [[(b_1, .cells (([.slice A_2 a0.code.length c_3, .int .i64 a0.locs, .int .i64 a0.base, .slice A_5 a0.answers.length c_6] : List Value) ++ (cs_8 ++ (([] : List Value) ++ (cs_10 ++ ([.bool a0.less, .bool a0.same, .int .u64 a0.held, .int .u64 a0.ctrl, .int .u64 a0.fenced, .int .i64 a0.hold, .int .i64 a0.event, .slice A_12 a0.out.length c_13] : List Value))))).toArray 59 (0, 0))], X_15] _ rfl) (RdS.now q_4 hp_411) (RdS.now q_7 hp_411) q_9 q_11 q_14 hx_562) rfl ?_
   rintro v_ w_567 ⟨cs_573, cs_575, A_577, c_578, X_580, rfl, q_571, q_572, q_574, q_576, q_579, af_570⟩
   have hp_568 := Hp.callA af_570 hp_411
   have q_581 := q_571.up (Hp.down hp_411)
   have q_582 := q_572.up (Hp.down hp_411)
   refine k_nil ?_
   refine k_anyF [[0, 1, 2, 3, 4], [0, 1, 2, 3, 4], [0, 1, 2, 3, 4], [0, 1, 2, 3, 4], [0, 1, 2, 3, 4], [0, 1, 2, 3, 4], [0, 1, 2, 3, 4], [0, 1, 2, 3, 4], [0, 1, 2, 3, 4], [0, 1, 2, 3, 4], [0, 1, 2, 3, 4], [1, 2, 3, 4]] [0, 1, 3, 7, 0, 16, 48, 112, 255, 511, 1023, 2047] mixed hp_568 12 (by kernel_rfl) (fun w_583 hp_584 => ?_)
   refine w_takes (f := 1) tb [0, 1, 2, 3, 4] (Wp.of hp_584 [0, 1, 2, 3, 4] rfl) [] [] [⟨0, 868, _, _, [0], fun w h => cells_box (sz := 8) (h.get (i := 0) (j := 0) rfl rfl) (segs 4 864 8 rfl (segs 64 800 8 (arr_len q_574 rfl) (segs 0 800 8 rfl (segs 800 0 8 (arr_len q_576 rfl) rfl))))⟩] [(0, 0, 0)] [] [0, 1, 2, 4, 5, 6, 3, 7, 8, 9, 10] 2047 [(309, .int .u64 (bits .or .u64 r_564.fenced r_564.ctrl)), (311, .pointer (some ⟨b_1, 872, none⟩))] (fun _ => (po_then (po_x po_body))) rfl rfl (by kernel_rfl) fun σ => ?_
   refine w_one (m' := 4095) 11 rfl (by kernel_rfl) (by kernel_rfl) ?_
   refine s_store (i := 0) (j := 0) (vs := [.int .u64 (bits .or .u64 r_564.fenced r_564.ctrl)]) (l' := (([.slice A_2 r_564.code.length c_3, .int .i64 r_564.locs, .int .i64 r_564.base, .slice A_5 r_564.answers.length c_6] : List Value) ++ (cs_573 ++ (([] : List Value) ++ (cs_575 ++ ([.bool r_564.less, .bool r_564.same, .int .u64 r_564.held, .int .u64 r_564.ctrl, .int .u64 (bits .or .u64 r_564.fenced r_564.ctrl), .int .i64 r_564.hold, .int .i64 r_564.event, .slice A_577 r_564.out.length c_578] : List Value)))))) hp_584 (tm rfl rfl) (tm rfl rfl) rfl Try.sizeOf31 rfl rfl rfl rfl (ble_len (lenA rfl (lenA (arr_len q_574 rfl) (lenA rfl (lenA (arr_len q_576 rfl) rfl)))) rfl) (segu 4 868 rfl (segu 64 804 (arr_len q_574 rfl) (segu 0 804 rfl (segu 800 4 (arr_len q_576 rfl) rfl)))) (fun w_585 hp_586 => ?_)
   refine k_nil ?_
   refine ⟨(Wp.of hp_586 [1, 2, 3, 4] rfl), ?_⟩
   refine w_done (by kernel_rfl) ?_
   obtain rfl := Option.some.inj H
   exact ⟨{ r_564 with fenced := bits .or .u64 r_564.fenced r_564.ctrl }, _, A_5, c_6, cs_573, cs_575, A_577, c_578, X_580, rfl, seenF trivial, hp_586.pick [0, 1] (by decide) rfl, q_581, q_582, q_574, q_576, q_579⟩
  have H := iff_ h_560 H
  refine kq tb hp_411 [] [(312, .bool (decide (a1.Op = 23)))] (by kernel_rfl) fun σ => ?_
  refine k_if (tm rfl rfl) (fun h_603 => ?_) (fun h_603 => ?_)
  ·have H := ift h_603 H
   refine k_region ?_
   refine sv (v := .pointer (some ⟨b_1, 0, none⟩)) rfl rfl rfl (e_move (tm rfl rfl)) ?_
   obtain ⟨r_606, hx_605, H⟩ := bindSome H
   rcases r_606 with p_608 | r_607
   ·refine s_pan (.cons (tm rfl rfl) .nil) Try.call41 (thread_thread_call.callsP a0 b_1 A_2 c_3 A_5 c_6 cs_8 cs_10 A_12 c_13 X_15 p_608 _ _ (Hp.offI hp_411 [[(b_1, .cells (([.slice A_2 a0.code.length c_3, .int .i64 a0.locs, .int .i64 a0.base, .slice A_5 a0.answers.length c_6] : List Value) ++ (cs_8 ++ (([] : List Value) ++ (cs_10 ++ ([.bool a0.less, .bool a0.same, .int .u64 a0.held, .int .u64 a0.ctrl, .int .u64 a0.fenced, .int .i64 a0.hold, .int .i64 a0.event, .slice A_12 a0.out.length c_13] : List Value))))).toArray 59 (0, 0))], X_15] _ rfl) (Hp.have1 hp_411 [[(b_1, .cells (([.slice A_2 a0.code.length c_3, .int .i64 a0.locs, .int .i64 a0.base, .slice A_5 a0.answers.length c_6] : List Value) ++ (cs_8 ++ (([] : List Value) ++ (cs_10 ++ ([.bool a0.less, .bool a0.same, .int .u64 a0.held, .int .u64 a0.ctrl, .int .u64 a0.fenced, .int .i64 a0.hold, .int .i64 a0.event, .slice A_12 a0.out.length c_13] : List Value))))).toArray 59 (0, 0))], X_15] _ rfl) (RdS.now q_4 hp_411) (RdS.now q_7 hp_411) q_9 q_11 q_14 hx_605) ?_
    rintro c_ w_626 ⟨cs_632, cs_634, A_636, c_637, X_639, rfl, q_630, q_631, q_633, q_635, q_638, af_629⟩
    have hp_627 := Hp.callA af_629 hp_411
    have q_640 := q_630.up (Hp.down hp_411)
    have q_641 := q_631.up (Hp.down hp_411)
    refine q_panic ?_
    obtain ⟨v_, H', hv_⟩ := mapSome H
    subst hv_
    have H := H'.trans (show some v_ = _ from G_112)
    obtain rfl := Option.some.inj H
    refine ⟨rfl, ?_⟩
    exact .inr ⟨_, rfl, _, rfl, ⟨A_5, c_6, cs_632, cs_634, A_636, c_637, X_639, rfl, q_640, q_641, q_633, q_635, q_638, (hp_627.pick [0, 1] (by decide) rfl).aft⟩⟩
   refine s_call (.cons (tm rfl rfl) .nil) Try.call41 (thread_thread_call.calls a0 b_1 A_2 c_3 A_5 c_6 cs_8 cs_10 A_12 c_13 X_15 r_607 _ _ (Hp.offI hp_411 [[(b_1, .cells (([.slice A_2 a0.code.length c_3, .int .i64 a0.locs, .int .i64 a0.base, .slice A_5 a0.answers.length c_6] : List Value) ++ (cs_8 ++ (([] : List Value) ++ (cs_10 ++ ([.bool a0.less, .bool a0.same, .int .u64 a0.held, .int .u64 a0.ctrl, .int .u64 a0.fenced, .int .i64 a0.hold, .int .i64 a0.event, .slice A_12 a0.out.length c_13] : List Value))))).toArray 59 (0, 0))], X_15] _ rfl) (Hp.have1 hp_411 [[(b_1, .cells (([.slice A_2 a0.code.length c_3, .int .i64 a0.locs, .int .i64 a0.base, .slice A_5 a0.answers.length c_6] : List Value) ++ (cs_8 ++ (([] : List Value) ++ (cs_10 ++ ([.bool a0.less, .bool a0.same, .int .u64 a0.held, .int .u64 a0.ctrl, .int .u64 a0.fenced, .int .i64 a0.hold, .int .i64 a0.event, .slice A_12 a0.out.length c_13] : List Value))))).toArray 59 (0, 0))], X_15] _ rfl) (RdS.now q_4 hp_411) (RdS.now q_7 hp_411) q_9 q_11 q_14 hx_605) rfl ?_
   rintro v_ w_610 ⟨cs_616, cs_618, A_620, c_621, X_623, rfl, q_614, q_615, q_617, q_619, q_622, af_613⟩
   have hp_611 := Hp.callA af_613 hp_411
   have q_624 := q_614.up (Hp.down hp_411)
   have q_625 := q_615.up (Hp.down hp_411)
   refine k_nil ?_
   obtain rfl := Option.some.inj H
   exact ⟨r_607, _, A_5, c_6, cs_616, cs_618, A_620, c_621, X_623, rfl, seenF trivial, hp_611.pick [0, 1] (by decide) rfl, q_624, q_625, q_617, q_619, q_622⟩
  have H := iff_ h_603 H
  refine k_skip ?_
  obtain rfl := Option.some.inj H
  exact ⟨a0, _, A_5, c_6, cs_8, cs_10, A_12, c_13, X_15, rfl, seenF trivial, hp_411.pick [0, 1] (by decide) rfl, q_4, q_7, q_9, q_11, q_14⟩
 clear H
 rintro a w' ⟨s_113, σ_644, A_649, c_650, cs_652, cs_654, A_656, c_657, X_659, rfl, rfl, hp_645, q_648, q_651, q_653, q_655, q_658⟩
 have H := G_112
 refine kq tb hp_645 [] [(4, .int .i64 1)] (by kernel_rfl) fun σ => ?_
 refine k_ret ?_
 obtain rfl := Option.some.inj H
 exact k_endP rfl (.tmp rfl rfl .nil) rfl ⟨_, rfl, ⟨A_649, c_650, cs_652, cs_654, A_656, c_657, X_659, rfl, q_648, q_651, q_653, q_655, q_658, (hp_645).aft⟩⟩
theorem thread_thread_step.calls (a0 : thread_thread) (b_1 : Nat) (A_2 : Option Addr) (c_3 : Nat) (A_5 : Option Addr) (c_6 : Nat) (cs_8 : List Value) (cs_10 : List Value) (A_12 : Option Addr) (c_13 : Nat) (X_15 : Rsc) (a1 : api_Inst) (r' : Int × thread_thread) (w : World) (F : Nat → Prop) (hF : ∀ k, F k → Off w [[(b_1, .cells (([.slice A_2 a0.code.length c_3, .int .i64 a0.locs, .int .i64 a0.base, .slice A_5 a0.answers.length c_6] : List Value) ++ (cs_8 ++ (([] : List Value) ++ (cs_10 ++ ([.bool a0.less, .bool a0.same, .int .u64 a0.held, .int .u64 a0.ctrl, .int .u64 a0.fenced, .int .i64 a0.hold, .int .i64 a0.event, .slice A_12 a0.out.length c_13] : List Value))))).toArray 59 (0, 0))], X_15] k) (hX : Have w [[(b_1, .cells (([.slice A_2 a0.code.length c_3, .int .i64 a0.locs, .int .i64 a0.base, .slice A_5 a0.answers.length c_6] : List Value) ++ (cs_8 ++ (([] : List Value) ++ (cs_10 ++ ([.bool a0.less, .bool a0.same, .int .u64 a0.held, .int .u64 a0.ctrl, .int .u64 a0.fenced, .int .i64 a0.hold, .int .i64 a0.event, .slice A_12 a0.out.length c_13] : List Value))))).toArray 59 (0, 0))], X_15]) (q_4 : RdS api_Inst_E F w A_2 c_3 a0.code) (q_7 : RdS (intE .i64) F w A_5 c_6 a0.answers) (q_9 : Reps thread_cell_E no wz a0.regs.toList cs_8) (q_11 : Reps thread_cell_E no wz a0.stack.toList cs_10) (q_14 : Own api_Event_E no wz 33 A_12 c_13 a0.out X_15) (H : thread_thread_step.m a0 a1 = some (Sum.inr r')) :
 Ret Try.prog 20 [.pointer (some ⟨b_1, 0, none⟩), .agg #[.int .i64 a1.Op, .int .i64 a1.T, .int .i64 a1.A, .int .i64 a1.B, .int .i64 a1.Imm]] w fun v w' => ∃ (A_1662 : Option Addr) (c_1663 : Nat) (cs_1665 : List Value) (cs_1667 : List Value) (A_1669 : Option Addr) (c_1670 : Nat) (X_1672 : Rsc), v = .int .i64 r'.1 ∧ RdS api_Inst_E F w A_2 c_3 r'.2.code ∧ RdS (intE .i64) F w A_1662 c_1663 r'.2.answers ∧ Reps thread_cell_E no wz r'.2.regs.toList cs_1665 ∧ Reps thread_cell_E no wz r'.2.stack.toList cs_1667 ∧ Own api_Event_E no wz 33 A_1669 c_1670 r'.2.out X_1672 ∧ Aft w w' [[(b_1, .cells (([.slice A_2 a0.code.length c_3, .int .i64 a0.locs, .int .i64 a0.base, .slice A_5 a0.answers.length c_6] : List Value) ++ (cs_8 ++ (([] : List Value) ++ (cs_10 ++ ([.bool a0.less, .bool a0.same, .int .u64 a0.held, .int .u64 a0.ctrl, .int .u64 a0.fenced, .int .i64 a0.hold, .int .i64 a0.event, .slice A_12 a0.out.length c_13] : List Value))))).toArray 59 (0, 0))], X_15] [[(b_1, .cells (([.slice A_2 r'.2.code.length c_3, .int .i64 r'.2.locs, .int .i64 r'.2.base, .slice A_1662 r'.2.answers.length c_1663] : List Value) ++ (cs_1665 ++ (([] : List Value) ++ (cs_1667 ++ ([.bool r'.2.less, .bool r'.2.same, .int .u64 r'.2.held, .int .u64 r'.2.ctrl, .int .u64 r'.2.fenced, .int .i64 r'.2.hold, .int .i64 r'.2.event, .slice A_1669 r'.2.out.length c_1670] : List Value))))).toArray 59 (0, 0))], X_1672] := by
 exact (thread_thread_step.calls_ _ _ _ _ _ _ _ _ _ _ _ _ _ _ _ hF hX q_4 q_7 q_9 q_11 q_14 H).ret (fun v w' ⟨_, hr, h⟩ => by cases hr; exact h) (fun c w' ⟨_, hr, _⟩ => by cases hr)
theorem thread_thread_step.callsP (a0 : thread_thread) (b_1 : Nat) (A_2 : Option Addr) (c_3 : Nat) (A_5 : Option Addr) (c_6 : Nat) (cs_8 : List Value) (cs_10 : List Value) (A_12 : Option Addr) (c_13 : Nat) (X_15 : Rsc) (a1 : api_Inst) (p' : Int × thread_thread) (w : World) (F : Nat → Prop) (hF : ∀ k, F k → Off w [[(b_1, .cells (([.slice A_2 a0.code.length c_3, .int .i64 a0.locs, .int .i64 a0.base, .slice A_5 a0.answers.length c_6] : List Value) ++ (cs_8 ++ (([] : List Value) ++ (cs_10 ++ ([.bool a0.less, .bool a0.same, .int .u64 a0.held, .int .u64 a0.ctrl, .int .u64 a0.fenced, .int .i64 a0.hold, .int .i64 a0.event, .slice A_12 a0.out.length c_13] : List Value))))).toArray 59 (0, 0))], X_15] k) (hX : Have w [[(b_1, .cells (([.slice A_2 a0.code.length c_3, .int .i64 a0.locs, .int .i64 a0.base, .slice A_5 a0.answers.length c_6] : List Value) ++ (cs_8 ++ (([] : List Value) ++ (cs_10 ++ ([.bool a0.less, .bool a0.same, .int .u64 a0.held, .int .u64 a0.ctrl, .int .u64 a0.fenced, .int .i64 a0.hold, .int .i64 a0.event, .slice A_12 a0.out.length c_13] : List Value))))).toArray 59 (0, 0))], X_15]) (q_4 : RdS api_Inst_E F w A_2 c_3 a0.code) (q_7 : RdS (intE .i64) F w A_5 c_6 a0.answers) (q_9 : Reps thread_cell_E no wz a0.regs.toList cs_8) (q_11 : Reps thread_cell_E no wz a0.stack.toList cs_10) (q_14 : Own api_Event_E no wz 33 A_12 c_13 a0.out X_15) (H : thread_thread_step.m a0 a1 = some (Sum.inl p')) :
 Pan Try.prog 20 [.pointer (some ⟨b_1, 0, none⟩), .agg #[.int .i64 a1.Op, .int .i64 a1.T, .int .i64 a1.A, .int .i64 a1.B, .int .i64 a1.Imm]] w fun c w' => ∃ (A_1674 : Option Addr) (c_1675 : Nat) (cs_1677 : List Value) (cs_1679 : List Value) (A_1681 : Option Addr) (c_1682 : Nat) (X_1684 : Rsc), c = [⟨.iface 60 (.int .i64 p'.1), false, false⟩] ∧ RdS api_Inst_E F w A_2 c_3 p'.2.code ∧ RdS (intE .i64) F w A_1674 c_1675 p'.2.answers ∧ Reps thread_cell_E no wz p'.2.regs.toList cs_1677 ∧ Reps thread_cell_E no wz p'.2.stack.toList cs_1679 ∧ Own api_Event_E no wz 33 A_1681 c_1682 p'.2.out X_1684 ∧ Aft w w' [[(b_1, .cells (([.slice A_2 a0.code.length c_3, .int .i64 a0.locs, .int .i64 a0.base, .slice A_5 a0.answers.length c_6] : List Value) ++ (cs_8 ++ (([] : List Value) ++ (cs_10 ++ ([.bool a0.less, .bool a0.same, .int .u64 a0.held, .int .u64 a0.ctrl, .int .u64 a0.fenced, .int .i64 a0.hold, .int .i64 a0.event, .slice A_12 a0.out.length c_13] : List Value))))).toArray 59 (0, 0))], X_15] [[(b_1, .cells (([.slice A_2 p'.2.code.length c_3, .int .i64 p'.2.locs, .int .i64 p'.2.base, .slice A_1674 p'.2.answers.length c_1675] : List Value) ++ (cs_1677 ++ (([] : List Value) ++ (cs_1679 ++ ([.bool p'.2.less, .bool p'.2.same, .int .u64 p'.2.held, .int .u64 p'.2.ctrl, .int .u64 p'.2.fenced, .int .i64 p'.2.hold, .int .i64 p'.2.event, .slice A_1681 p'.2.out.length c_1682] : List Value))))).toArray 59 (0, 0))], X_1684] := by
 exact (thread_thread_step.calls_ _ _ _ _ _ _ _ _ _ _ _ _ _ _ _ hF hX q_4 q_7 q_9 q_11 q_14 H).pan (fun v w' ⟨_, hr, _⟩ => by cases hr) (fun c w' ⟨_, hr, h⟩ => by cases hr; exact h)

end Go.Proofs.Ytcnchjlomcafeaa.W

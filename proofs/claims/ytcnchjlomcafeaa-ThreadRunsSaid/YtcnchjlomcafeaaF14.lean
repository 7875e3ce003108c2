/- Functions of the program as plain Lean functions, and that the calls do what they say: written by w2.py. -/
import Derived.Test.YtcnchjlomcafeaaRun
import Derived.Test.YtcnchjlomcafeaaTy
import Derived.Test.YtcnchjlomcafeaaG0
set_option linter.unusedVariables false
set_option linter.unusedSimpArgs false
set_option linter.unusedSectionVars false
namespace Go.Proofs.Ytcnchjlomcafeaa.W
open Go Go.RowKit Go.Proofs.Ytcnchjlomcafeaa.B
attribute [local irreducible] Go.wpList Go.Code.wp Go.Region.wanted Go.yielded
/-! ### (*selvage/thread.thread).call: function 41 -/
def thread_thread_call.m (a0 : thread_thread) : Option ((Int × thread_thread) ⊕ thread_thread) :=
  if (decide (((vg a0.regs 0).n) = 0)) = true then (some (Sum.inl (1, a0))) else (if (decide (((vg a0.regs 0).n) = 1)) = true then ((thread_thread_tell.m a0 (⟨6, 0, (vg a0.regs 3).n, 0, 0, 0, 0, 0⟩ : api_Event)).bind fun r_26 => match r_26 with | .inl p_28 => (some (Sum.inl (p_28.1, p_28.2))) | .inr r_27 => (some (Sum.inr r_27))) else (if (decide (((vg a0.regs 0).n) = 2)) = true then (some (Sum.inl (2, a0))) else (if (decide (((vg a0.regs 0).n) = 3)) = true then (some (Sum.inl (3, a0))) else (some (Sum.inl (6, a0))))))
set_option maxHeartbeats 4000000 in
set_option maxRecDepth 100000 in
theorem thread_thread_call.calls_ (a0 : thread_thread) (b_1 : Nat) (A_2 : Option Addr) (c_3 : Nat) (A_5 : Option Addr) (c_6 : Nat) (cs_8 : List Value) (cs_10 : List Value) (A_12 : Option Addr) (c_13 : Nat) (X_15 : Rsc) (r : (Int × thread_thread) ⊕ thread_thread) (w : World) (F : Nat → Prop) (hF : ∀ k, F k → Off w [[(b_1, .cells (([.slice A_2 a0.code.length c_3, .int .i64 a0.locs, .int .i64 a0.base, .slice A_5 a0.answers.length c_6] : List Value) ++ (cs_8 ++ (([] : List Value) ++ (cs_10 ++ ([.bool a0.less, .bool a0.same, .int .u64 a0.held, .int .u64 a0.ctrl, .int .u64 a0.fenced, .int .i64 a0.hold, .int .i64 a0.event, .slice A_12 a0.out.length c_13] : List Value))))).toArray 59 (0, 0))], X_15] k) (hX : Have w [[(b_1, .cells (([.slice A_2 a0.code.length c_3, .int .i64 a0.locs, .int .i64 a0.base, .slice A_5 a0.answers.length c_6] : List Value) ++ (cs_8 ++ (([] : List Value) ++ (cs_10 ++ ([.bool a0.less, .bool a0.same, .int .u64 a0.held, .int .u64 a0.ctrl, .int .u64 a0.fenced, .int .i64 a0.hold, .int .i64 a0.event, .slice A_12 a0.out.length c_13] : List Value))))).toArray 59 (0, 0))], X_15]) (q_4 : RdS api_Inst_E F w A_2 c_3 a0.code) (q_7 : RdS (intE .i64) F w A_5 c_6 a0.answers) (q_9 : Reps thread_cell_E no wz a0.regs.toList cs_8) (q_11 : Reps thread_cell_E no wz a0.stack.toList cs_10) (q_14 : Own api_Event_E no wz 33 A_12 c_13 a0.out X_15) (H : thread_thread_call.m a0 = some r) :
    RetP Try.prog 41 [.pointer (some ⟨b_1, 0, none⟩)] w (fun v w' => ∃ r', r = Sum.inr r' ∧ ∃ (cs_1066 : List Value) (cs_1068 : List Value) (A_1070 : Option Addr) (c_1071 : Nat) (X_1073 : Rsc), v = .tuple #[] ∧ RdS api_Inst_E F w A_2 c_3 r'.code ∧ RdS (intE .i64) F w A_5 c_6 r'.answers ∧ Reps thread_cell_E no wz r'.regs.toList cs_1066 ∧ Reps thread_cell_E no wz r'.stack.toList cs_1068 ∧ Own api_Event_E no wz 33 A_1070 c_1071 r'.out X_1073 ∧ Aft w w' [[(b_1, .cells (([.slice A_2 a0.code.length c_3, .int .i64 a0.locs, .int .i64 a0.base, .slice A_5 a0.answers.length c_6] : List Value) ++ (cs_8 ++ (([] : List Value) ++ (cs_10 ++ ([.bool a0.less, .bool a0.same, .int .u64 a0.held, .int .u64 a0.ctrl, .int .u64 a0.fenced, .int .i64 a0.hold, .int .i64 a0.event, .slice A_12 a0.out.length c_13] : List Value))))).toArray 59 (0, 0))], X_15] [[(b_1, .cells (([.slice A_2 r'.code.length c_3, .int .i64 r'.locs, .int .i64 r'.base, .slice A_5 r'.answers.length c_6] : List Value) ++ (cs_1066 ++ (([] : List Value) ++ (cs_1068 ++ ([.bool r'.less, .bool r'.same, .int .u64 r'.held, .int .u64 r'.ctrl, .int .u64 r'.fenced, .int .i64 r'.hold, .int .i64 r'.event, .slice A_1070 r'.out.length c_1071] : List Value))))).toArray 59 (0, 0))], X_1073]) (fun c w' => ∃ p', r = Sum.inl p' ∧ ∃ (cs_1076 : List Value) (cs_1078 : List Value) (A_1080 : Option Addr) (c_1081 : Nat) (X_1083 : Rsc), c = [⟨.iface 60 (.int .i64 p'.1), false, false⟩] ∧ RdS api_Inst_E F w A_2 c_3 p'.2.code ∧ RdS (intE .i64) F w A_5 c_6 p'.2.answers ∧ Reps thread_cell_E no wz p'.2.regs.toList cs_1076 ∧ Reps thread_cell_E no wz p'.2.stack.toList cs_1078 ∧ Own api_Event_E no wz 33 A_1080 c_1081 p'.2.out X_1083 ∧ Aft w w' [[(b_1, .cells (([.slice A_2 a0.code.length c_3, .int .i64 a0.locs, .int .i64 a0.base, .slice A_5 a0.answers.length c_6] : List Value) ++ (cs_8 ++ (([] : List Value) ++ (cs_10 ++ ([.bool a0.less, .bool a0.same, .int .u64 a0.held, .int .u64 a0.ctrl, .int .u64 a0.fenced, .int .i64 a0.hold, .int .i64 a0.event, .slice A_12 a0.out.length c_13] : List Value))))).toArray 59 (0, 0))], X_15] [[(b_1, .cells (([.slice A_2 p'.2.code.length c_3, .int .i64 p'.2.locs, .int .i64 p'.2.base, .slice A_5 p'.2.answers.length c_6] : List Value) ++ (cs_1076 ++ (([] : List Value) ++ (cs_1078 ++ ([.bool p'.2.less, .bool p'.2.same, .int .u64 p'.2.held, .int .u64 p'.2.ctrl, .int .u64 p'.2.fenced, .int .i64 p'.2.hold, .int .i64 p'.2.event, .slice A_1080 p'.2.out.length c_1081] : List Value))))).toArray 59 (0, 0))], X_1083]) := by
  unfold thread_thread_call.m at H
  have hp0 := Hp.startR hX hF
  have ep0 := Ep.refl F [[(b_1, .cells (([.slice A_2 a0.code.length c_3, .int .i64 a0.locs, .int .i64 a0.base, .slice A_5 a0.answers.length c_6] : List Value) ++ (cs_8 ++ (([] : List Value) ++ (cs_10 ++ ([.bool a0.less, .bool a0.same, .int .u64 a0.held, .int .u64 a0.ctrl, .int .u64 a0.fenced, .int .i64 a0.hold, .int .i64 a0.event, .slice A_12 a0.out.length c_13] : List Value))))).toArray 59 (0, 0))], X_15] w
  refine enter (L := [(0, .pointer (some ⟨b_1, 0, none⟩))]) Try.func41 rfl Try.ntmps41 rfl rfl ?_
  obtain ⟨cs_17, rp_16, q_18⟩ := arr_elem q_9 (show 0 ≤ (0 : Int) ∧ (0 : Int) < (32 : Int) by decide)
  obtain rfl : cs_17 = [.int .i64 ((vg a0.regs 0).n), .int .u64 ((vg a0.regs 0).hang)] := rp_16
  refine kqx tb hp0 [⟨_, _, (arr_at (pre := ([.slice A_2 a0.code.length c_3, .int .i64 a0.locs, .int .i64 a0.base, .slice A_5 a0.answers.length c_6] : List Value)) (post := ([] : List Value) ++ (cs_10 ++ ([.bool a0.less, .bool a0.same, .int .u64 a0.held, .int .u64 a0.ctrl, .int .u64 a0.fenced, .int .i64 a0.hold, .int .i64 a0.event, .slice A_12 a0.out.length c_13] : List Value))) (hp0.get (i := 0) (j := 0) rfl rfl) rfl rfl q_18)⟩] [.a 5 2 b_1 4 _ _ (show 0 ≤ (0 : Int) ∧ (0 : Int) < (32 : Int) by decide)] [] [(0, 0, 0)] [] [(7, .int .i64 ((vg a0.regs 0).n))] (by kernel_rfl) fun σ => ?_
  refine k_block ?_
  refine kq tb hp0 [] [(9, .bool (decide (((vg a0.regs 0).n) = 0)))] (by kernel_rfl) fun σ => ?_
  refine k_if (tm rfl rfl) (fun h_19 => ?_) (fun h_19 => ?_)
  · have H := ift h_19 H
    refine k_region ?_
    refine sv (v := .iface 60 (.int .i64 1)) rfl rfl rfl (e_makeIface rfl Try.runUnderlying60 rfl) ?_
    refine s_panic (tm rfl rfl) ?_
    refine q_panic ?_
    obtain rfl := Option.some.inj H
    refine ⟨rfl, ?_⟩
    exact .inr ⟨_, rfl, _, rfl, ⟨cs_8, cs_10, A_12, c_13, X_15, rfl, q_4, q_7, q_9, q_11, q_14, (hp0).aft⟩⟩
  have H := iff_ h_19 H
  refine kq tb hp0 [] [(12, .bool (decide (((vg a0.regs 0).n) = 1)))] (by kernel_rfl) fun σ => ?_
  refine k_if (tm rfl rfl) (fun h_20 => ?_) (fun h_20 => ?_)
  · have H := ift h_20 H
    refine k_region ?_
    obtain ⟨cs_22, rp_21, q_23⟩ := arr_elem q_9 (show 0 ≤ (3 : Int) ∧ (3 : Int) < (32 : Int) by decide)
    obtain rfl : cs_22 = [.int .i64 ((vg a0.regs 3).n), .int .u64 ((vg a0.regs 3).hang)] := rp_21
    refine srx tb hp0 [⟨_, _, (arr_at (pre := ([.slice A_2 a0.code.length c_3, .int .i64 a0.locs, .int .i64 a0.base, .slice A_5 a0.answers.length c_6] : List Value)) (post := ([] : List Value) ++ (cs_10 ++ ([.bool a0.less, .bool a0.same, .int .u64 a0.held, .int .u64 a0.ctrl, .int .u64 a0.fenced, .int .i64 a0.hold, .int .i64 a0.event, .slice A_12 a0.out.length c_13] : List Value))) (hp0.get (i := 0) (j := 0) rfl rfl) rfl rfl q_23)⟩] [.a 18 2 b_1 4 _ _ (show 0 ≤ (3 : Int) ∧ (3 : Int) < (32 : Int) by decide)] [] [(0, 0, 0)] [] 8 [(14, .pointer (some ⟨b_1, 0, none⟩)), (21, .agg #[.int .i64 6, .int .i64 0, .int .i64 ((vg a0.regs 3).n), .int .i64 0, .int .u64 0, .int .u64 0, .int .u64 0, .int .u64 0])] (by kernel_rfl) fun σ => ?_
    obtain ⟨r_26, hx_25, H⟩ := bindSome H
    rcases r_26 with p_28 | r_27
    · refine s_pan (.cons (tm rfl rfl) (.cons (tm rfl rfl) .nil)) Try.call40 (thread_thread_tell.callsP a0 b_1 A_2 c_3 A_5 c_6 cs_8 cs_10 A_12 c_13 X_15 (⟨6, 0, (vg a0.regs 3).n, 0, 0, 0, 0, 0⟩ : api_Event) p_28 _ _ (Hp.offI hp0 [[(b_1, .cells (([.slice A_2 a0.code.length c_3, .int .i64 a0.locs, .int .i64 a0.base, .slice A_5 a0.answers.length c_6] : List Value) ++ (cs_8 ++ (([] : List Value) ++ (cs_10 ++ ([.bool a0.less, .bool a0.same, .int .u64 a0.held, .int .u64 a0.ctrl, .int .u64 a0.fenced, .int .i64 a0.hold, .int .i64 a0.event, .slice A_12 a0.out.length c_13] : List Value))))).toArray 59 (0, 0))], X_15] _ rfl) (Hp.have1 hp0 [[(b_1, .cells (([.slice A_2 a0.code.length c_3, .int .i64 a0.locs, .int .i64 a0.base, .slice A_5 a0.answers.length c_6] : List Value) ++ (cs_8 ++ (([] : List Value) ++ (cs_10 ++ ([.bool a0.less, .bool a0.same, .int .u64 a0.held, .int .u64 a0.ctrl, .int .u64 a0.fenced, .int .i64 a0.hold, .int .i64 a0.event, .slice A_12 a0.out.length c_13] : List Value))))).toArray 59 (0, 0))], X_15] _ rfl) (RdS.now q_4 hp0) (RdS.now q_7 hp0) q_9 q_11 q_14 hx_25) ?_
      rintro c_ w_46 ⟨cs_52, cs_54, A_56, c_57, X_59, rfl, q_50, q_51, q_53, q_55, q_58, af_49⟩
      have hp_47 := Hp.callA af_49 hp0
      have q_60 := q_50.up (Hp.down hp0)
      have q_61 := q_51.up (Hp.down hp0)
      refine q_panic ?_
      obtain rfl := Option.some.inj H
      refine ⟨rfl, ?_⟩
      exact .inr ⟨_, rfl, _, rfl, ⟨cs_52, cs_54, A_56, c_57, X_59, rfl, q_60, q_61, q_53, q_55, q_58, (hp_47).aft⟩⟩
    refine s_call (.cons (tm rfl rfl) (.cons (tm rfl rfl) .nil)) Try.call40 (thread_thread_tell.calls a0 b_1 A_2 c_3 A_5 c_6 cs_8 cs_10 A_12 c_13 X_15 (⟨6, 0, (vg a0.regs 3).n, 0, 0, 0, 0, 0⟩ : api_Event) r_27 _ _ (Hp.offI hp0 [[(b_1, .cells (([.slice A_2 a0.code.length c_3, .int .i64 a0.locs, .int .i64 a0.base, .slice A_5 a0.answers.length c_6] : List Value) ++ (cs_8 ++ (([] : List Value) ++ (cs_10 ++ ([.bool a0.less, .bool a0.same, .int .u64 a0.held, .int .u64 a0.ctrl, .int .u64 a0.fenced, .int .i64 a0.hold, .int .i64 a0.event, .slice A_12 a0.out.length c_13] : List Value))))).toArray 59 (0, 0))], X_15] _ rfl) (Hp.have1 hp0 [[(b_1, .cells (([.slice A_2 a0.code.length c_3, .int .i64 a0.locs, .int .i64 a0.base, .slice A_5 a0.answers.length c_6] : List Value) ++ (cs_8 ++ (([] : List Value) ++ (cs_10 ++ ([.bool a0.less, .bool a0.same, .int .u64 a0.held, .int .u64 a0.ctrl, .int .u64 a0.fenced, .int .i64 a0.hold, .int .i64 a0.event, .slice A_12 a0.out.length c_13] : List Value))))).toArray 59 (0, 0))], X_15] _ rfl) (RdS.now q_4 hp0) (RdS.now q_7 hp0) q_9 q_11 q_14 hx_25) rfl ?_
    rintro v_ w_30 ⟨cs_36, cs_38, A_40, c_41, X_43, rfl, q_34, q_35, q_37, q_39, q_42, af_33⟩
    have hp_31 := Hp.callA af_33 hp0
    have q_44 := q_34.up (Hp.down hp0)
    have q_45 := q_35.up (Hp.down hp0)
    refine k_nil ?_
    obtain rfl := Option.some.inj H
    exact k_endPn rfl .nil rfl ⟨_, rfl, ⟨cs_36, cs_38, A_40, c_41, X_43, rfl, q_44, q_45, q_37, q_39, q_42, (hp_31).aft⟩⟩
  have H := iff_ h_20 H
  refine kq tb hp0 [] [(23, .bool (decide (((vg a0.regs 0).n) = 2)))] (by kernel_rfl) fun σ => ?_
  refine k_if (tm rfl rfl) (fun h_62 => ?_) (fun h_62 => ?_)
  · have H := ift h_62 H
    refine k_region ?_
    refine sv (v := .iface 60 (.int .i64 2)) rfl rfl rfl (e_makeIface rfl Try.runUnderlying60 rfl) ?_
    refine s_panic (tm rfl rfl) ?_
    refine q_panic ?_
    obtain rfl := Option.some.inj H
    refine ⟨rfl, ?_⟩
    exact .inr ⟨_, rfl, _, rfl, ⟨cs_8, cs_10, A_12, c_13, X_15, rfl, q_4, q_7, q_9, q_11, q_14, (hp0).aft⟩⟩
  have H := iff_ h_62 H
  refine kq tb hp0 [] [(26, .bool (decide (((vg a0.regs 0).n) = 3)))] (by kernel_rfl) fun σ => ?_
  refine k_if (tm rfl rfl) (fun h_63 => ?_) (fun h_63 => ?_)
  · have H := ift h_63 H
    refine k_region ?_
    refine sv (v := .iface 60 (.int .i64 3)) rfl rfl rfl (e_makeIface rfl Try.runUnderlying60 rfl) ?_
    refine s_panic (tm rfl rfl) ?_
    refine q_panic ?_
    obtain rfl := Option.some.inj H
    refine ⟨rfl, ?_⟩
    exact .inr ⟨_, rfl, _, rfl, ⟨cs_8, cs_10, A_12, c_13, X_15, rfl, q_4, q_7, q_9, q_11, q_14, (hp0).aft⟩⟩
  have H := iff_ h_63 H
  refine k_region ?_
  refine sv (v := .iface 60 (.int .i64 6)) rfl rfl rfl (e_makeIface rfl Try.runUnderlying60 rfl) ?_
  refine s_panic (tm rfl rfl) ?_
  refine q_panic ?_
  obtain rfl := Option.some.inj H
  refine ⟨rfl, ?_⟩
  exact .inr ⟨_, rfl, _, rfl, ⟨cs_8, cs_10, A_12, c_13, X_15, rfl, q_4, q_7, q_9, q_11, q_14, (hp0).aft⟩⟩
theorem thread_thread_call.calls (a0 : thread_thread) (b_1 : Nat) (A_2 : Option Addr) (c_3 : Nat) (A_5 : Option Addr) (c_6 : Nat) (cs_8 : List Value) (cs_10 : List Value) (A_12 : Option Addr) (c_13 : Nat) (X_15 : Rsc) (r' : thread_thread) (w : World) (F : Nat → Prop) (hF : ∀ k, F k → Off w [[(b_1, .cells (([.slice A_2 a0.code.length c_3, .int .i64 a0.locs, .int .i64 a0.base, .slice A_5 a0.answers.length c_6] : List Value) ++ (cs_8 ++ (([] : List Value) ++ (cs_10 ++ ([.bool a0.less, .bool a0.same, .int .u64 a0.held, .int .u64 a0.ctrl, .int .u64 a0.fenced, .int .i64 a0.hold, .int .i64 a0.event, .slice A_12 a0.out.length c_13] : List Value))))).toArray 59 (0, 0))], X_15] k) (hX : Have w [[(b_1, .cells (([.slice A_2 a0.code.length c_3, .int .i64 a0.locs, .int .i64 a0.base, .slice A_5 a0.answers.length c_6] : List Value) ++ (cs_8 ++ (([] : List Value) ++ (cs_10 ++ ([.bool a0.less, .bool a0.same, .int .u64 a0.held, .int .u64 a0.ctrl, .int .u64 a0.fenced, .int .i64 a0.hold, .int .i64 a0.event, .slice A_12 a0.out.length c_13] : List Value))))).toArray 59 (0, 0))], X_15]) (q_4 : RdS api_Inst_E F w A_2 c_3 a0.code) (q_7 : RdS (intE .i64) F w A_5 c_6 a0.answers) (q_9 : Reps thread_cell_E no wz a0.regs.toList cs_8) (q_11 : Reps thread_cell_E no wz a0.stack.toList cs_10) (q_14 : Own api_Event_E no wz 33 A_12 c_13 a0.out X_15) (H : thread_thread_call.m a0 = some (Sum.inr r')) :
    Ret Try.prog 41 [.pointer (some ⟨b_1, 0, none⟩)] w fun v w' => ∃ (cs_1066 : List Value) (cs_1068 : List Value) (A_1070 : Option Addr) (c_1071 : Nat) (X_1073 : Rsc), v = .tuple #[] ∧ RdS api_Inst_E F w A_2 c_3 r'.code ∧ RdS (intE .i64) F w A_5 c_6 r'.answers ∧ Reps thread_cell_E no wz r'.regs.toList cs_1066 ∧ Reps thread_cell_E no wz r'.stack.toList cs_1068 ∧ Own api_Event_E no wz 33 A_1070 c_1071 r'.out X_1073 ∧ Aft w w' [[(b_1, .cells (([.slice A_2 a0.code.length c_3, .int .i64 a0.locs, .int .i64 a0.base, .slice A_5 a0.answers.length c_6] : List Value) ++ (cs_8 ++ (([] : List Value) ++ (cs_10 ++ ([.bool a0.less, .bool a0.same, .int .u64 a0.held, .int .u64 a0.ctrl, .int .u64 a0.fenced, .int .i64 a0.hold, .int .i64 a0.event, .slice A_12 a0.out.length c_13] : List Value))))).toArray 59 (0, 0))], X_15] [[(b_1, .cells (([.slice A_2 r'.code.length c_3, .int .i64 r'.locs, .int .i64 r'.base, .slice A_5 r'.answers.length c_6] : List Value) ++ (cs_1066 ++ (([] : List Value) ++ (cs_1068 ++ ([.bool r'.less, .bool r'.same, .int .u64 r'.held, .int .u64 r'.ctrl, .int .u64 r'.fenced, .int .i64 r'.hold, .int .i64 r'.event, .slice A_1070 r'.out.length c_1071] : List Value))))).toArray 59 (0, 0))], X_1073] := by
  exact (thread_thread_call.calls_ _ _ _ _ _ _ _ _ _ _ _ _ _ _ hF hX q_4 q_7 q_9 q_11 q_14 H).ret (fun v w' ⟨_, hr, h⟩ => by cases hr; exact h) (fun c w' ⟨_, hr, _⟩ => by cases hr)
theorem thread_thread_call.callsP (a0 : thread_thread) (b_1 : Nat) (A_2 : Option Addr) (c_3 : Nat) (A_5 : Option Addr) (c_6 : Nat) (cs_8 : List Value) (cs_10 : List Value) (A_12 : Option Addr) (c_13 : Nat) (X_15 : Rsc) (p' : Int × thread_thread) (w : World) (F : Nat → Prop) (hF : ∀ k, F k → Off w [[(b_1, .cells (([.slice A_2 a0.code.length c_3, .int .i64 a0.locs, .int .i64 a0.base, .slice A_5 a0.answers.length c_6] : List Value) ++ (cs_8 ++ (([] : List Value) ++ (cs_10 ++ ([.bool a0.less, .bool a0.same, .int .u64 a0.held, .int .u64 a0.ctrl, .int .u64 a0.fenced, .int .i64 a0.hold, .int .i64 a0.event, .slice A_12 a0.out.length c_13] : List Value))))).toArray 59 (0, 0))], X_15] k) (hX : Have w [[(b_1, .cells (([.slice A_2 a0.code.length c_3, .int .i64 a0.locs, .int .i64 a0.base, .slice A_5 a0.answers.length c_6] : List Value) ++ (cs_8 ++ (([] : List Value) ++ (cs_10 ++ ([.bool a0.less, .bool a0.same, .int .u64 a0.held, .int .u64 a0.ctrl, .int .u64 a0.fenced, .int .i64 a0.hold, .int .i64 a0.event, .slice A_12 a0.out.length c_13] : List Value))))).toArray 59 (0, 0))], X_15]) (q_4 : RdS api_Inst_E F w A_2 c_3 a0.code) (q_7 : RdS (intE .i64) F w A_5 c_6 a0.answers) (q_9 : Reps thread_cell_E no wz a0.regs.toList cs_8) (q_11 : Reps thread_cell_E no wz a0.stack.toList cs_10) (q_14 : Own api_Event_E no wz 33 A_12 c_13 a0.out X_15) (H : thread_thread_call.m a0 = some (Sum.inl p')) :
    Pan Try.prog 41 [.pointer (some ⟨b_1, 0, none⟩)] w fun c w' => ∃ (cs_1076 : List Value) (cs_1078 : List Value) (A_1080 : Option Addr) (c_1081 : Nat) (X_1083 : Rsc), c = [⟨.iface 60 (.int .i64 p'.1), false, false⟩] ∧ RdS api_Inst_E F w A_2 c_3 p'.2.code ∧ RdS (intE .i64) F w A_5 c_6 p'.2.answers ∧ Reps thread_cell_E no wz p'.2.regs.toList cs_1076 ∧ Reps thread_cell_E no wz p'.2.stack.toList cs_1078 ∧ Own api_Event_E no wz 33 A_1080 c_1081 p'.2.out X_1083 ∧ Aft w w' [[(b_1, .cells (([.slice A_2 a0.code.length c_3, .int .i64 a0.locs, .int .i64 a0.base, .slice A_5 a0.answers.length c_6] : List Value) ++ (cs_8 ++ (([] : List Value) ++ (cs_10 ++ ([.bool a0.less, .bool a0.same, .int .u64 a0.held, .int .u64 a0.ctrl, .int .u64 a0.fenced, .int .i64 a0.hold, .int .i64 a0.event, .slice A_12 a0.out.length c_13] : List Value))))).toArray 59 (0, 0))], X_15] [[(b_1, .cells (([.slice A_2 p'.2.code.length c_3, .int .i64 p'.2.locs, .int .i64 p'.2.base, .slice A_5 p'.2.answers.length c_6] : List Value) ++ (cs_1076 ++ (([] : List Value) ++ (cs_1078 ++ ([.bool p'.2.less, .bool p'.2.same, .int .u64 p'.2.held, .int .u64 p'.2.ctrl, .int .u64 p'.2.fenced, .int .i64 p'.2.hold, .int .i64 p'.2.event, .slice A_1080 p'.2.out.length c_1081] : List Value))))).toArray 59 (0, 0))], X_1083] := by
  exact (thread_thread_call.calls_ _ _ _ _ _ _ _ _ _ _ _ _ _ _ hF hX q_4 q_7 q_9 q_11 q_14 H).pan (fun v w' ⟨_, hr, _⟩ => by cases hr) (fun c w' ⟨_, hr, h⟩ => by cases hr; exact h)

end Go.Proofs.Ytcnchjlomcafeaa.W

/- Functions of the program as plain Lean functions, and that the calls do what they say: written by w2.py. -/
import Derived.Test.YtcnchjlomcafeaaDefer
import Derived.Test.YtcnchjlomcafeaaTy
set_option linter.unusedVariables false
set_option linter.unusedSimpArgs false
set_option linter.unusedSectionVars false
namespace Go.Proofs.Ytcnchjlomcafeaa.W
open Go Go.RowKit Go.Proofs.Ytcnchjlomcafeaa.B
attribute [local irreducible] Go.wpList Go.Code.wp Go.Region.wanted Go.yielded
/-! ### (*selvage/thread.thread).place: function 56 -/
def thread_thread_place.m (a0 : thread_thread) (a1 : Int) : Option (Int ⊕ Int) :=
  if (((decide ((wrap64 (a1 - 65536)) ≥ 0)) && (decide ((wrap64 (a1 - 65536)) < (wrap64 (8 * a0.locs))))) && (decide ((Int.tmod (wrap64 (a1 - 65536)) 8) = 0))) = true then (some (Sum.inr (wrap64 (Int.tdiv (wrap64 (a1 - 65536)) 8)))) else (if (((decide ((wrap64 (a1 - a0.base)) ≥ 0)) && (decide ((wrap64 (a1 - a0.base)) < 3200))) && (decide ((Int.tmod (wrap64 (a1 - a0.base)) 8) = 0))) = true then (some (Sum.inr (wrap64 ((-1) - (wrap64 (Int.tdiv (wrap64 (a1 - a0.base)) 8)))))) else (some (Sum.inl 6)))
set_option maxHeartbeats 4000000 in
set_option maxRecDepth 100000 in
theorem thread_thread_place.calls_ (a0 : thread_thread) (b_1 : Nat) (A_2 : Option Addr) (c_3 : Nat) (A_5 : Option Addr) (c_6 : Nat) (cs_8 : List Value) (cs_10 : List Value) (A_12 : Option Addr) (c_13 : Nat) (X_15 : Rsc) (a1 : Int) (r : Int ⊕ Int) (w : World) (F : Nat → Prop) (hF : ∀ k, F k → Off w [[(b_1, .cells (([.slice A_2 a0.code.length c_3, .int .i64 a0.locs, .int .i64 a0.base, .slice A_5 a0.answers.length c_6] : List Value) ++ (cs_8 ++ (([] : List Value) ++ (cs_10 ++ ([.bool a0.less, .bool a0.same, .int .u64 a0.held, .int .u64 a0.ctrl, .int .u64 a0.fenced, .int .i64 a0.hold, .int .i64 a0.event, .slice A_12 a0.out.length c_13] : List Value))))).toArray 59 (0, 0))], X_15] k) (hX : Have w [[(b_1, .cells (([.slice A_2 a0.code.length c_3, .int .i64 a0.locs, .int .i64 a0.base, .slice A_5 a0.answers.length c_6] : List Value) ++ (cs_8 ++ (([] : List Value) ++ (cs_10 ++ ([.bool a0.less, .bool a0.same, .int .u64 a0.held, .int .u64 a0.ctrl, .int .u64 a0.fenced, .int .i64 a0.hold, .int .i64 a0.event, .slice A_12 a0.out.length c_13] : List Value))))).toArray 59 (0, 0))], X_15]) (q_4 : RdS api_Inst_E F w A_2 c_3 a0.code) (q_7 : RdS (intE .i64) F w A_5 c_6 a0.answers) (q_9 : Reps thread_cell_E no wz a0.regs.toList cs_8) (q_11 : Reps thread_cell_E no wz a0.stack.toList cs_10) (q_14 : Own api_Event_E no wz 33 A_12 c_13 a0.out X_15) (H : thread_thread_place.m a0 a1 = some r) :
    RetP Try.prog 56 [.pointer (some ⟨b_1, 0, none⟩), .int .i64 a1] w (fun v w' => ∃ r', r = Sum.inr r' ∧ v = .int .i64 r' ∧ Aft w w' [[(b_1, .cells (([.slice A_2 a0.code.length c_3, .int .i64 a0.locs, .int .i64 a0.base, .slice A_5 a0.answers.length c_6] : List Value) ++ (cs_8 ++ (([] : List Value) ++ (cs_10 ++ ([.bool a0.less, .bool a0.same, .int .u64 a0.held, .int .u64 a0.ctrl, .int .u64 a0.fenced, .int .i64 a0.hold, .int .i64 a0.event, .slice A_12 a0.out.length c_13] : List Value))))).toArray 59 (0, 0))], X_15] [[(b_1, .cells (([.slice A_2 a0.code.length c_3, .int .i64 a0.locs, .int .i64 a0.base, .slice A_5 a0.answers.length c_6] : List Value) ++ (cs_8 ++ (([] : List Value) ++ (cs_10 ++ ([.bool a0.less, .bool a0.same, .int .u64 a0.held, .int .u64 a0.ctrl, .int .u64 a0.fenced, .int .i64 a0.hold, .int .i64 a0.event, .slice A_12 a0.out.length c_13] : List Value))))).toArray 59 (0, 0))], X_15]) (fun c w' => ∃ p', r = Sum.inl p' ∧ c = [⟨.iface 60 (.int .i64 p'), false, false⟩] ∧ Aft w w' [[(b_1, .cells (([.slice A_2 a0.code.length c_3, .int .i64 a0.locs, .int .i64 a0.base, .slice A_5 a0.answers.length c_6] : List Value) ++ (cs_8 ++ (([] : List Value) ++ (cs_10 ++ ([.bool a0.less, .bool a0.same, .int .u64 a0.held, .int .u64 a0.ctrl, .int .u64 a0.fenced, .int .i64 a0.hold, .int .i64 a0.event, .slice A_12 a0.out.length c_13] : List Value))))).toArray 59 (0, 0))], X_15] [[(b_1, .cells (([.slice A_2 a0.code.length c_3, .int .i64 a0.locs, .int .i64 a0.base, .slice A_5 a0.answers.length c_6] : List Value) ++ (cs_8 ++ (([] : List Value) ++ (cs_10 ++ ([.bool a0.less, .bool a0.same, .int .u64 a0.held, .int .u64 a0.ctrl, .int .u64 a0.fenced, .int .i64 a0.hold, .int .i64 a0.event, .slice A_12 a0.out.length c_13] : List Value))))).toArray 59 (0, 0))], X_15]) := by
  unfold thread_thread_place.m at H
  have hp0 := Hp.startR hX hF
  have ep0 := Ep.refl F [[(b_1, .cells (([.slice A_2 a0.code.length c_3, .int .i64 a0.locs, .int .i64 a0.base, .slice A_5 a0.answers.length c_6] : List Value) ++ (cs_8 ++ (([] : List Value) ++ (cs_10 ++ ([.bool a0.less, .bool a0.same, .int .u64 a0.held, .int .u64 a0.ctrl, .int .u64 a0.fenced, .int .i64 a0.hold, .int .i64 a0.event, .slice A_12 a0.out.length c_13] : List Value))))).toArray 59 (0, 0))], X_15] w
  refine enter (L := [(0, .pointer (some ⟨b_1, 0, none⟩)), (1, .int .i64 a1)]) Try.func56 rfl Try.ntmps56 rfl rfl ?_
  refine k_seq ?_
  refine k_region ?_
  refine sv (v := .int .i64 0) rfl rfl rfl (e_assign rfl) ?_
  refine k_nil ?_
  refine k_seq ?_
  refine k_seq ?_
  refine k_region ?_
  refine sv (v := .int .i64 a1) rfl rfl rfl (e_move (tm rfl rfl)) ?_
  refine sv (v := .int .i64 (wrap64 (a1 - 65536))) rfl rfl rfl (e_bin (tm rfl rfl) rfl (r_sub (wrap_i64 _))) ?_
  refine sv (v := .int .i64 (wrap64 (a1 - 65536))) rfl rfl rfl (e_assign (tm rfl rfl)) ?_
  refine k_nil ?_
  refine k_seq ?_
  refine k_region ?_
  refine sv (v := .int .i64 (wrap64 (a1 - 65536))) rfl rfl rfl (e_move (tm rfl rfl)) ?_
  refine sv (v := .bool (decide ((wrap64 (a1 - 65536)) ≥ 0))) rfl rfl rfl (e_bin (tm rfl rfl) rfl (r_geq rfl)) ?_
  refine sv (v := .bool (decide ((wrap64 (a1 - 65536)) ≥ 0))) rfl rfl rfl (e_move (tm rfl rfl)) ?_
  refine s_gp (v := .int .i64 (wrap64 (a1 - 65536))) rfl rfl rfl (beq_t _) (fun g_ => e_move (tm rfl rfl)) rfl ?_
  refine s_gp (v := .pointer (some ⟨b_1, 0, none⟩)) rfl rfl rfl (beq_t _) (fun g_ => e_move (tm rfl rfl)) rfl ?_
  refine s_gp (v := .pointer (some ⟨b_1, 0, none⟩)) rfl rfl rfl (beq_t _) (fun g_ => e_nilCheckP (tmg (decide ((wrap64 (a1 - 65536)) ≥ 0)) (.pointer (some ⟨b_1, 0, none⟩)) rfl rfl g_)) rfl ?_
  refine s_gp (v := .pointer (some ⟨b_1, 1, none⟩)) rfl rfl rfl (beq_t _) (fun g_ => e_fieldAddr (tmg (decide ((wrap64 (a1 - 65536)) ≥ 0)) (.pointer (some ⟨b_1, 0, none⟩)) rfl rfl g_) Try.runUnderlying59 rfl Try.sizeOf3 rfl rfl) rfl ?_
  refine s_gp (v := .int .i64 a0.locs) rfl rfl rfl (beq_t _) (fun g_ => e_load1 (tmg (decide ((wrap64 (a1 - 65536)) ≥ 0)) (.pointer (some ⟨b_1, 1, none⟩)) rfl rfl g_) Try.isAgg3 (cell_atL (hp0.get (i := 0) (j := 0) rfl rfl) rfl)) rfl ?_
  refine s_gp (v := .int .i64 (wrap64 (8 * a0.locs))) rfl rfl rfl (beq_t _) (fun g_ => e_bin rfl (tmg (decide ((wrap64 (a1 - 65536)) ≥ 0)) (.int .i64 a0.locs) rfl rfl g_) (r_mul (wrap_i64 _))) rfl ?_
  refine s_gp (v := .bool (decide ((wrap64 (a1 - 65536)) < (wrap64 (8 * a0.locs))))) rfl rfl rfl (beq_t _) (fun g_ => e_bin (tmg (decide ((wrap64 (a1 - 65536)) ≥ 0)) (.int .i64 (wrap64 (a1 - 65536))) rfl rfl g_) (tmg (decide ((wrap64 (a1 - 65536)) ≥ 0)) (.int .i64 (wrap64 (8 * a0.locs))) rfl rfl g_) (r_lss rfl)) rfl ?_
  refine sv (v := .bool ((decide ((wrap64 (a1 - 65536)) ≥ 0)) && (decide ((wrap64 (a1 - 65536)) < (wrap64 (8 * a0.locs)))))) rfl rfl rfl (e_pick (v1 := .bool (decide ((wrap64 (a1 - 65536)) < (wrap64 (8 * a0.locs))))) (v2 := .bool false) (tm rfl rfl) (fun h_ => tmg (decide ((wrap64 (a1 - 65536)) ≥ 0)) (.bool (decide ((wrap64 (a1 - 65536)) < (wrap64 (8 * a0.locs))))) rfl rfl h_) (fun _ => rfl) (pk_and (decide ((wrap64 (a1 - 65536)) ≥ 0)))) ?_
  refine sv (v := .bool ((decide ((wrap64 (a1 - 65536)) ≥ 0)) && (decide ((wrap64 (a1 - 65536)) < (wrap64 (8 * a0.locs)))))) rfl rfl rfl (e_move (tm rfl rfl)) ?_
  refine s_gp (v := .int .i64 (wrap64 (a1 - 65536))) rfl rfl rfl (beq_t _) (fun g_ => e_move (tm rfl rfl)) rfl ?_
  refine s_gp (v := .int .i64 (Int.tmod (wrap64 (a1 - 65536)) 8)) rfl rfl rfl (beq_t _) (fun g_ => e_bin (tmg ((decide ((wrap64 (a1 - 65536)) ≥ 0)) && (decide ((wrap64 (a1 - 65536)) < (wrap64 (8 * a0.locs))))) (.int .i64 (wrap64 (a1 - 65536))) rfl rfl g_) rfl (r_rem (by decide) rfl)) rfl ?_
  refine s_gp (v := .bool (decide ((Int.tmod (wrap64 (a1 - 65536)) 8) = 0))) rfl rfl rfl (beq_t _) (fun g_ => e_bin (tmg ((decide ((wrap64 (a1 - 65536)) ≥ 0)) && (decide ((wrap64 (a1 - 65536)) < (wrap64 (8 * a0.locs))))) (.int .i64 (Int.tmod (wrap64 (a1 - 65536)) 8)) rfl rfl g_) rfl (r_eql rfl)) rfl ?_
  refine sv (v := .bool (((decide ((wrap64 (a1 - 65536)) ≥ 0)) && (decide ((wrap64 (a1 - 65536)) < (wrap64 (8 * a0.locs))))) && (decide ((Int.tmod (wrap64 (a1 - 65536)) 8) = 0)))) rfl rfl rfl (e_pick (v1 := .bool (decide ((Int.tmod (wrap64 (a1 - 65536)) 8) = 0))) (v2 := .bool false) (tm rfl rfl) (fun h_ => tmg ((decide ((wrap64 (a1 - 65536)) ≥ 0)) && (decide ((wrap64 (a1 - 65536)) < (wrap64 (8 * a0.locs))))) (.bool (decide ((Int.tmod (wrap64 (a1 - 65536)) 8) = 0))) rfl rfl h_) (fun _ => rfl) (pk_and ((decide ((wrap64 (a1 - 65536)) ≥ 0)) && (decide ((wrap64 (a1 - 65536)) < (wrap64 (8 * a0.locs))))))) ?_
  refine k_nil ?_
  refine k_if (tm rfl rfl) (fun h_16 => ?_) (fun h_16 => ?_)
  · have H := ift h_16 H
    refine k_seq ?_
    refine k_region ?_
    refine sv (v := .int .i64 (wrap64 (a1 - 65536))) rfl rfl rfl (e_move (tm rfl rfl)) ?_
    refine sv (v := .int .i64 (wrap64 (Int.tdiv (wrap64 (a1 - 65536)) 8))) rfl rfl rfl (e_bin (tm rfl rfl) rfl (r_div (op := .not) (by decide) (wrap_i64 _))) ?_
    refine sv (v := .int .i64 (wrap64 (Int.tdiv (wrap64 (a1 - 65536)) 8))) rfl rfl rfl (e_assign (tm rfl rfl)) ?_
    refine k_nil ?_
    refine k_ret ?_
    obtain rfl := Option.some.inj H
    exact k_endP rfl (.tmp rfl rfl .nil) rfl ⟨_, rfl, ⟨rfl, (hp0).aft⟩⟩
  have H := iff_ h_16 H
  refine k_skip ?_
  refine k_seq ?_
  refine k_seq ?_
  refine k_region ?_
  refine sv (v := .int .i64 a1) rfl rfl rfl (e_move (tm rfl rfl)) ?_
  refine sv (v := .pointer (some ⟨b_1, 0, none⟩)) rfl rfl rfl (e_move (tm rfl rfl)) ?_
  refine sv (v := .pointer (some ⟨b_1, 0, none⟩)) rfl rfl rfl (e_nilCheckP (tm rfl rfl)) ?_
  refine sv (v := .pointer (some ⟨b_1, 2, none⟩)) rfl rfl rfl (e_fieldAddr (tm rfl rfl) Try.runUnderlying59 rfl Try.sizeOf2 rfl rfl) ?_
  refine sv (v := .int .i64 a0.base) rfl rfl rfl (e_load1 (tm rfl rfl) Try.isAgg2 (cell_atL (hp0.get (i := 0) (j := 0) rfl rfl) rfl)) ?_
  refine sv (v := .int .i64 (wrap64 (a1 - a0.base))) rfl rfl rfl (e_bin (tm rfl rfl) (tm rfl rfl) (r_sub (wrap_i64 _))) ?_
  refine sv (v := .int .i64 (wrap64 (a1 - a0.base))) rfl rfl rfl (e_assign (tm rfl rfl)) ?_
  refine k_nil ?_
  refine k_seq ?_
  refine k_region ?_
  refine sv (v := .int .i64 (wrap64 (a1 - a0.base))) rfl rfl rfl (e_move (tm rfl rfl)) ?_
  refine sv (v := .bool (decide ((wrap64 (a1 - a0.base)) ≥ 0))) rfl rfl rfl (e_bin (tm rfl rfl) rfl (r_geq rfl)) ?_
  refine sv (v := .bool (decide ((wrap64 (a1 - a0.base)) ≥ 0))) rfl rfl rfl (e_move (tm rfl rfl)) ?_
  refine s_gp (v := .int .i64 (wrap64 (a1 - a0.base))) rfl rfl rfl (beq_t _) (fun g_ => e_move (tm rfl rfl)) rfl ?_
  refine s_gp (v := .bool (decide ((wrap64 (a1 - a0.base)) < 3200))) rfl rfl rfl (beq_t _) (fun g_ => e_bin (tmg (decide ((wrap64 (a1 - a0.base)) ≥ 0)) (.int .i64 (wrap64 (a1 - a0.base))) rfl rfl g_) rfl (r_lss rfl)) rfl ?_
  refine sv (v := .bool ((decide ((wrap64 (a1 - a0.base)) ≥ 0)) && (decide ((wrap64 (a1 - a0.base)) < 3200)))) rfl rfl rfl (e_pick (v1 := .bool (decide ((wrap64 (a1 - a0.base)) < 3200))) (v2 := .bool false) (tm rfl rfl) (fun h_ => tmg (decide ((wrap64 (a1 - a0.base)) ≥ 0)) (.bool (decide ((wrap64 (a1 - a0.base)) < 3200))) rfl rfl h_) (fun _ => rfl) (pk_and (decide ((wrap64 (a1 - a0.base)) ≥ 0)))) ?_
  refine sv (v := .bool ((decide ((wrap64 (a1 - a0.base)) ≥ 0)) && (decide ((wrap64 (a1 - a0.base)) < 3200)))) rfl rfl rfl (e_move (tm rfl rfl)) ?_
  refine s_gp (v := .int .i64 (wrap64 (a1 - a0.base))) rfl rfl rfl (beq_t _) (fun g_ => e_move (tm rfl rfl)) rfl ?_
  refine s_gp (v := .int .i64 (Int.tmod (wrap64 (a1 - a0.base)) 8)) rfl rfl rfl (beq_t _) (fun g_ => e_bin (tmg ((decide ((wrap64 (a1 - a0.base)) ≥ 0)) && (decide ((wrap64 (a1 - a0.base)) < 3200))) (.int .i64 (wrap64 (a1 - a0.base))) rfl rfl g_) rfl (r_rem (by decide) rfl)) rfl ?_
  refine s_gp (v := .bool (decide ((Int.tmod (wrap64 (a1 - a0.base)) 8) = 0))) rfl rfl rfl (beq_t _) (fun g_ => e_bin (tmg ((decide ((wrap64 (a1 - a0.base)) ≥ 0)) && (decide ((wrap64 (a1 - a0.base)) < 3200))) (.int .i64 (Int.tmod (wrap64 (a1 - a0.base)) 8)) rfl rfl g_) rfl (r_eql rfl)) rfl ?_
  refine sv (v := .bool (((decide ((wrap64 (a1 - a0.base)) ≥ 0)) && (decide ((wrap64 (a1 - a0.base)) < 3200))) && (decide ((Int.tmod (wrap64 (a1 - a0.base)) 8) = 0)))) rfl rfl rfl (e_pick (v1 := .bool (decide ((Int.tmod (wrap64 (a1 - a0.base)) 8) = 0))) (v2 := .bool false) (tm rfl rfl) (fun h_ => tmg ((decide ((wrap64 (a1 - a0.base)) ≥ 0)) && (decide ((wrap64 (a1 - a0.base)) < 3200))) (.bool (decide ((Int.tmod (wrap64 (a1 - a0.base)) 8) = 0))) rfl rfl h_) (fun _ => rfl) (pk_and ((decide ((wrap64 (a1 - a0.base)) ≥ 0)) && (decide ((wrap64 (a1 - a0.base)) < 3200))))) ?_
  refine k_nil ?_
  refine k_if (tm rfl rfl) (fun h_17 => ?_) (fun h_17 => ?_)
  · have H := ift h_17 H
    refine k_seq ?_
    refine k_region ?_
    refine sv (v := .int .i64 (wrap64 (a1 - a0.base))) rfl rfl rfl (e_move (tm rfl rfl)) ?_
    refine sv (v := .int .i64 (wrap64 (Int.tdiv (wrap64 (a1 - a0.base)) 8))) rfl rfl rfl (e_bin (tm rfl rfl) rfl (r_div (op := .not) (by decide) (wrap_i64 _))) ?_
    refine sv (v := .int .i64 (wrap64 ((-1) - (wrap64 (Int.tdiv (wrap64 (a1 - a0.base)) 8))))) rfl rfl rfl (e_bin rfl (tm rfl rfl) (r_sub (wrap_i64 _))) ?_
    refine sv (v := .int .i64 (wrap64 ((-1) - (wrap64 (Int.tdiv (wrap64 (a1 - a0.base)) 8))))) rfl rfl rfl (e_assign (tm rfl rfl)) ?_
    refine k_nil ?_
    refine k_ret ?_
    obtain rfl := Option.some.inj H
    exact k_endP rfl (.tmp rfl rfl .nil) rfl ⟨_, rfl, ⟨rfl, (hp0).aft⟩⟩
  have H := iff_ h_17 H
  refine k_skip ?_
  refine k_region ?_
  refine sv (v := .iface 60 (.int .i64 6)) rfl rfl rfl (e_makeIface rfl Try.runUnderlying60 rfl) ?_
  refine s_panic (tm rfl rfl) ?_
  obtain rfl := Option.some.inj H
  refine ⟨rfl, ?_⟩
  exact .inr ⟨_, rfl, _, rfl, ⟨rfl, (hp0).aft⟩⟩
theorem thread_thread_place.calls (a0 : thread_thread) (b_1 : Nat) (A_2 : Option Addr) (c_3 : Nat) (A_5 : Option Addr) (c_6 : Nat) (cs_8 : List Value) (cs_10 : List Value) (A_12 : Option Addr) (c_13 : Nat) (X_15 : Rsc) (a1 : Int) (r' : Int) (w : World) (F : Nat → Prop) (hF : ∀ k, F k → Off w [[(b_1, .cells (([.slice A_2 a0.code.length c_3, .int .i64 a0.locs, .int .i64 a0.base, .slice A_5 a0.answers.length c_6] : List Value) ++ (cs_8 ++ (([] : List Value) ++ (cs_10 ++ ([.bool a0.less, .bool a0.same, .int .u64 a0.held, .int .u64 a0.ctrl, .int .u64 a0.fenced, .int .i64 a0.hold, .int .i64 a0.event, .slice A_12 a0.out.length c_13] : List Value))))).toArray 59 (0, 0))], X_15] k) (hX : Have w [[(b_1, .cells (([.slice A_2 a0.code.length c_3, .int .i64 a0.locs, .int .i64 a0.base, .slice A_5 a0.answers.length c_6] : List Value) ++ (cs_8 ++ (([] : List Value) ++ (cs_10 ++ ([.bool a0.less, .bool a0.same, .int .u64 a0.held, .int .u64 a0.ctrl, .int .u64 a0.fenced, .int .i64 a0.hold, .int .i64 a0.event, .slice A_12 a0.out.length c_13] : List Value))))).toArray 59 (0, 0))], X_15]) (q_4 : RdS api_Inst_E F w A_2 c_3 a0.code) (q_7 : RdS (intE .i64) F w A_5 c_6 a0.answers) (q_9 : Reps thread_cell_E no wz a0.regs.toList cs_8) (q_11 : Reps thread_cell_E no wz a0.stack.toList cs_10) (q_14 : Own api_Event_E no wz 33 A_12 c_13 a0.out X_15) (H : thread_thread_place.m a0 a1 = some (Sum.inr r')) :
    Ret Try.prog 56 [.pointer (some ⟨b_1, 0, none⟩), .int .i64 a1] w fun v w' => v = .int .i64 r' ∧ Aft w w' [[(b_1, .cells (([.slice A_2 a0.code.length c_3, .int .i64 a0.locs, .int .i64 a0.base, .slice A_5 a0.answers.length c_6] : List Value) ++ (cs_8 ++ (([] : List Value) ++ (cs_10 ++ ([.bool a0.less, .bool a0.same, .int .u64 a0.held, .int .u64 a0.ctrl, .int .u64 a0.fenced, .int .i64 a0.hold, .int .i64 a0.event, .slice A_12 a0.out.length c_13] : List Value))))).toArray 59 (0, 0))], X_15] [[(b_1, .cells (([.slice A_2 a0.code.length c_3, .int .i64 a0.locs, .int .i64 a0.base, .slice A_5 a0.answers.length c_6] : List Value) ++ (cs_8 ++ (([] : List Value) ++ (cs_10 ++ ([.bool a0.less, .bool a0.same, .int .u64 a0.held, .int .u64 a0.ctrl, .int .u64 a0.fenced, .int .i64 a0.hold, .int .i64 a0.event, .slice A_12 a0.out.length c_13] : List Value))))).toArray 59 (0, 0))], X_15] := by
  exact (thread_thread_place.calls_ _ _ _ _ _ _ _ _ _ _ _ _ _ _ _ hF hX q_4 q_7 q_9 q_11 q_14 H).ret (fun v w' ⟨_, hr, h⟩ => by cases hr; exact h) (fun c w' ⟨_, hr, _⟩ => by cases hr)
theorem thread_thread_place.callsP (a0 : thread_thread) (b_1 : Nat) (A_2 : Option Addr) (c_3 : Nat) (A_5 : Option Addr) (c_6 : Nat) (cs_8 : List Value) (cs_10 : List Value) (A_12 : Option Addr) (c_13 : Nat) (X_15 : Rsc) (a1 : Int) (p' : Int) (w : World) (F : Nat → Prop) (hF : ∀ k, F k → Off w [[(b_1, .cells (([.slice A_2 a0.code.length c_3, .int .i64 a0.locs, .int .i64 a0.base, .slice A_5 a0.answers.length c_6] : List Value) ++ (cs_8 ++ (([] : List Value) ++ (cs_10 ++ ([.bool a0.less, .bool a0.same, .int .u64 a0.held, .int .u64 a0.ctrl, .int .u64 a0.fenced, .int .i64 a0.hold, .int .i64 a0.event, .slice A_12 a0.out.length c_13] : List Value))))).toArray 59 (0, 0))], X_15] k) (hX : Have w [[(b_1, .cells (([.slice A_2 a0.code.length c_3, .int .i64 a0.locs, .int .i64 a0.base, .slice A_5 a0.answers.length c_6] : List Value) ++ (cs_8 ++ (([] : List Value) ++ (cs_10 ++ ([.bool a0.less, .bool a0.same, .int .u64 a0.held, .int .u64 a0.ctrl, .int .u64 a0.fenced, .int .i64 a0.hold, .int .i64 a0.event, .slice A_12 a0.out.length c_13] : List Value))))).toArray 59 (0, 0))], X_15]) (q_4 : RdS api_Inst_E F w A_2 c_3 a0.code) (q_7 : RdS (intE .i64) F w A_5 c_6 a0.answers) (q_9 : Reps thread_cell_E no wz a0.regs.toList cs_8) (q_11 : Reps thread_cell_E no wz a0.stack.toList cs_10) (q_14 : Own api_Event_E no wz 33 A_12 c_13 a0.out X_15) (H : thread_thread_place.m a0 a1 = some (Sum.inl p')) :
    Pan Try.prog 56 [.pointer (some ⟨b_1, 0, none⟩), .int .i64 a1] w fun c w' => c = [⟨.iface 60 (.int .i64 p'), false, false⟩] ∧ Aft w w' [[(b_1, .cells (([.slice A_2 a0.code.length c_3, .int .i64 a0.locs, .int .i64 a0.base, .slice A_5 a0.answers.length c_6] : List Value) ++ (cs_8 ++ (([] : List Value) ++ (cs_10 ++ ([.bool a0.less, .bool a0.same, .int .u64 a0.held, .int .u64 a0.ctrl, .int .u64 a0.fenced, .int .i64 a0.hold, .int .i64 a0.event, .slice A_12 a0.out.length c_13] : List Value))))).toArray 59 (0, 0))], X_15] [[(b_1, .cells (([.slice A_2 a0.code.length c_3, .int .i64 a0.locs, .int .i64 a0.base, .slice A_5 a0.answers.length c_6] : List Value) ++ (cs_8 ++ (([] : List Value) ++ (cs_10 ++ ([.bool a0.less, .bool a0.same, .int .u64 a0.held, .int .u64 a0.ctrl, .int .u64 a0.fenced, .int .i64 a0.hold, .int .i64 a0.event, .slice A_12 a0.out.length c_13] : List Value))))).toArray 59 (0, 0))], X_15] := by
  exact (thread_thread_place.calls_ _ _ _ _ _ _ _ _ _ _ _ _ _ _ _ hF hX q_4 q_7 q_9 q_11 q_14 H).pan (fun v w' ⟨_, hr, _⟩ => by cases hr) (fun c w' ⟨_, hr, h⟩ => by cases hr; exact h)

end Go.Proofs.Ytcnchjlomcafeaa.W

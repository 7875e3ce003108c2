/- Functions of the program as plain Lean functions, and that the calls do what they say: written by w2.py. -/
import Derived.Test.YtcnchjlomcafeaaDefer
import Derived.Test.YtcnchjlomcafeaaTy
import Derived.Test.YtcnchjlomcafeaaF9
import Derived.Test.YtcnchjlomcafeaaF10
set_option linter.unusedVariables false
set_option linter.unusedSimpArgs false
set_option linter.unusedSectionVars false
namespace Go.Proofs.Ytcnchjlomcafeaa.W
open Go Go.RowKit Go.Proofs.Ytcnchjlomcafeaa.B
attribute [local irreducible] Go.wpList Go.Code.wp Go.Region.wanted Go.yielded
/-! ### (*selvage/thread.thread).load: function 37 -/
def thread_thread_load.m (a0 : thread_thread) (a1 : api_Inst) (a2 : thread_cell) : Option ((Int × thread_thread) ⊕ thread_thread) :=
  (thread_thread_place.m a0 a2.n).bind fun r_24 => match r_24 with | .inl p_26 => (some (Sum.inl (p_26, a0))) | .inr r_25 => (if (decide (r_25 < 0)) = true then (if 0 ≤ (wrap64 ((-1) - r_25)) ∧ (wrap64 ((-1) - r_25)) < (400 : Int) then (if 0 ≤ a1.T ∧ a1.T < (32 : Int) then ((if (decide (a1.Op = 14)) = true then (some (-1)) else (some a0.hold) : Option Int).bind fun o_52 => some (Sum.inr { a0 with regs := (vp a0.regs a1.T (⟨(vg a0.stack (wrap64 ((-1) - r_25))).n, bits .or .u64 ((vg a0.stack (wrap64 ((-1) - r_25))).hang) a2.hang⟩ : thread_cell)), hold := o_52 })) else none) else none) else (if (decide ((a0.answers.length : Int) = 0)) = true then (some (Sum.inl (4, a0))) else (if 0 ≤ (0 : Int) ∧ (0 : Int) < (a0.answers.length : Int) then ((thread_thread_tell.m a0 (⟨1, r_25, (gi a0.answers 0), 0, a2.hang, 0, 0, 0⟩ : api_Event)).bind fun r_71 => match r_71 with | .inl p_73 => (some (Sum.inl (p_73.1, p_73.2))) | .inr r_72 => (if 0 ≤ (1 : Int) ∧ (1 : Int) ≤ (r_72.answers.length : Int) ∧ (r_72.answers.length : Int) ≤ (r_72.answers.length : Int) then (if 0 ≤ a1.T ∧ a1.T < (32 : Int) then (if (decide (a1.Op = 14)) = true then (some (Sum.inr { r_72 with answers := (r_72.answers.drop (1 : Int).toNat), regs := (vp r_72.regs a1.T (⟨(gi a0.answers 0), (1 * 2 ^ (min (((a0.out.length : Int)) % 18446744073709551616).toNat 64)) % 18446744073709551616⟩ : thread_cell)), hold := r_25, event := (a0.out.length : Int) })) else (some (Sum.inr { r_72 with answers := (r_72.answers.drop (1 : Int).toNat), regs := (vp r_72.regs a1.T (⟨(gi a0.answers 0), (1 * 2 ^ (min (((a0.out.length : Int)) % 18446744073709551616).toNat 64)) % 18446744073709551616⟩ : thread_cell)) }))) else none) else none)) else none)))
set_option maxHeartbeats 4000000 in
set_option maxRecDepth 100000 in
theorem thread_thread_load.calls_ (a0 : thread_thread) (b_1 : Nat) (A_2 : Option Addr) (c_3 : Nat) (A_5 : Option Addr) (c_6 : Nat) (cs_8 : List Value) (cs_10 : List Value) (A_12 : Option Addr) (c_13 : Nat) (X_15 : Rsc) (a1 : api_Inst) (a2 : thread_cell) (r : (Int × thread_thread) ⊕ thread_thread) (w : World) (F : Nat → Prop) (hF : ∀ k, F k → Off w [[(b_1, .cells (([.slice A_2 a0.code.length c_3, .int .i64 a0.locs, .int .i64 a0.base, .slice A_5 a0.answers.length c_6] : List Value) ++ (cs_8 ++ (([] : List Value) ++ (cs_10 ++ ([.bool a0.less, .bool a0.same, .int .u64 a0.held, .int .u64 a0.ctrl, .int .u64 a0.fenced, .int .i64 a0.hold, .int .i64 a0.event, .slice A_12 a0.out.length c_13] : List Value))))).toArray 59 (0, 0))], X_15] k) (hX : Have w [[(b_1, .cells (([.slice A_2 a0.code.length c_3, .int .i64 a0.locs, .int .i64 a0.base, .slice A_5 a0.answers.length c_6] : List Value) ++ (cs_8 ++ (([] : List Value) ++ (cs_10 ++ ([.bool a0.less, .bool a0.same, .int .u64 a0.held, .int .u64 a0.ctrl, .int .u64 a0.fenced, .int .i64 a0.hold, .int .i64 a0.event, .slice A_12 a0.out.length c_13] : List Value))))).toArray 59 (0, 0))], X_15]) (q_4 : RdS api_Inst_E F w A_2 c_3 a0.code) (q_7 : RdS (intE .i64) F w A_5 c_6 a0.answers) (q_9 : Reps thread_cell_E no wz a0.regs.toList cs_8) (q_11 : Reps thread_cell_E no wz a0.stack.toList cs_10) (q_14 : Own api_Event_E no wz 33 A_12 c_13 a0.out X_15) (H : thread_thread_load.m a0 a1 a2 = some r) :
    RetP Try.prog 37 [.pointer (some ⟨b_1, 0, none⟩), .agg #[.int .i64 a1.Op, .int .i64 a1.T, .int .i64 a1.A, .int .i64 a1.B, .int .i64 a1.Imm], .agg #[.int .i64 a2.n, .int .u64 a2.hang]] w (fun v w' => ∃ r', r = Sum.inr r' ∧ ∃ (A_1133 : Option Addr) (c_1134 : Nat) (cs_1136 : List Value) (cs_1138 : List Value) (A_1140 : Option Addr) (c_1141 : Nat) (X_1143 : Rsc), v = .tuple #[] ∧ RdS api_Inst_E F w A_2 c_3 r'.code ∧ RdS (intE .i64) F w A_1133 c_1134 r'.answers ∧ Reps thread_cell_E no wz r'.regs.toList cs_1136 ∧ Reps thread_cell_E no wz r'.stack.toList cs_1138 ∧ Own api_Event_E no wz 33 A_1140 c_1141 r'.out X_1143 ∧ Aft w w' [[(b_1, .cells (([.slice A_2 a0.code.length c_3, .int .i64 a0.locs, .int .i64 a0.base, .slice A_5 a0.answers.length c_6] : List Value) ++ (cs_8 ++ (([] : List Value) ++ (cs_10 ++ ([.bool a0.less, .bool a0.same, .int .u64 a0.held, .int .u64 a0.ctrl, .int .u64 a0.fenced, .int .i64 a0.hold, .int .i64 a0.event, .slice A_12 a0.out.length c_13] : List Value))))).toArray 59 (0, 0))], X_15] [[(b_1, .cells (([.slice A_2 r'.code.length c_3, .int .i64 r'.locs, .int .i64 r'.base, .slice A_1133 r'.answers.length c_1134] : List Value) ++ (cs_1136 ++ (([] : List Value) ++ (cs_1138 ++ ([.bool r'.less, .bool r'.same, .int .u64 r'.held, .int .u64 r'.ctrl, .int .u64 r'.fenced, .int .i64 r'.hold, .int .i64 r'.event, .slice A_1140 r'.out.length c_1141] : List Value))))).toArray 59 (0, 0))], X_1143]) (fun c w' => ∃ p', r = Sum.inl p' ∧ ∃ (A_1145 : Option Addr) (c_1146 : Nat) (cs_1148 : List Value) (cs_1150 : List Value) (A_1152 : Option Addr) (c_1153 : Nat) (X_1155 : Rsc), c = [⟨.iface 60 (.int .i64 p'.1), false, false⟩] ∧ RdS api_Inst_E F w A_2 c_3 p'.2.code ∧ RdS (intE .i64) F w A_1145 c_1146 p'.2.answers ∧ Reps thread_cell_E no wz p'.2.regs.toList cs_1148 ∧ Reps thread_cell_E no wz p'.2.stack.toList cs_1150 ∧ Own api_Event_E no wz 33 A_1152 c_1153 p'.2.out X_1155 ∧ Aft w w' [[(b_1, .cells (([.slice A_2 a0.code.length c_3, .int .i64 a0.locs, .int .i64 a0.base, .slice A_5 a0.answers.length c_6] : List Value) ++ (cs_8 ++ (([] : List Value) ++ (cs_10 ++ ([.bool a0.less, .bool a0.same, .int .u64 a0.held, .int .u64 a0.ctrl, .int .u64 a0.fenced, .int .i64 a0.hold, .int .i64 a0.event, .slice A_12 a0.out.length c_13] : List Value))))).toArray 59 (0, 0))], X_15] [[(b_1, .cells (([.slice A_2 p'.2.code.length c_3, .int .i64 p'.2.locs, .int .i64 p'.2.base, .slice A_1145 p'.2.answers.length c_1146] : List Value) ++ (cs_1148 ++ (([] : List Value) ++ (cs_1150 ++ ([.bool p'.2.less, .bool p'.2.same, .int .u64 p'.2.held, .int .u64 p'.2.ctrl, .int .u64 p'.2.fenced, .int .i64 p'.2.hold, .int .i64 p'.2.event, .slice A_1152 p'.2.out.length c_1153] : List Value))))).toArray 59 (0, 0))], X_1155]) := by
  unfold thread_thread_load.m at H
  have hp0 := Hp.startR hX hF
  have ep0 := Ep.refl F [[(b_1, .cells (([.slice A_2 a0.code.length c_3, .int .i64 a0.locs, .int .i64 a0.base, .slice A_5 a0.answers.length c_6] : List Value) ++ (cs_8 ++ (([] : List Value) ++ (cs_10 ++ ([.bool a0.less, .bool a0.same, .int .u64 a0.held, .int .u64 a0.ctrl, .int .u64 a0.fenced, .int .i64 a0.hold, .int .i64 a0.event, .slice A_12 a0.out.length c_13] : List Value))))).toArray 59 (0, 0))], X_15] w
  refine enter (L := [(0, .pointer (some ⟨b_1, 0, none⟩)), (1, .agg #[.int .i64 a1.Op, .int .i64 a1.T, .int .i64 a1.A, .int .i64 a1.B, .int .i64 a1.Imm]), (2, .agg #[.int .i64 a2.n, .int .u64 a2.hang])]) Try.func37 rfl Try.ntmps37 rfl rfl ?_
  refine k_seq ?_
  refine k_region ?_
  refine s_box (l := [.int .i64 a1.Op, .int .i64 a1.T, .int .i64 a1.A, .int .i64 a1.B, .int .i64 a1.Imm]) hp0 (tm rfl rfl) rfl rfl (fun b_16 w_17 hp_18 => ?_)
  refine s_box (l := [.int .i64 a2.n, .int .u64 a2.hang]) hp_18 (tm rfl rfl) rfl rfl (fun b_19 w_20 hp_21 => ?_)
  refine k_nil ?_
  refine k_seq ?_
  refine k_region ?_
  refine sv (v := .pointer (some ⟨b_1, 0, none⟩)) rfl rfl rfl (e_move (tm rfl rfl)) ?_
  refine sv (v := .pointer (some ⟨b_19, 0, none⟩)) rfl rfl rfl (e_fieldAddr (tm rfl rfl) Try.runUnderlying55 rfl Try.sizeOf2 rfl rfl) ?_
  refine sv (v := .int .i64 a2.n) rfl rfl rfl (e_load1 (tm rfl rfl) Try.isAgg2 (cell_atL (hp_21.get (i := 3) (j := 0) rfl rfl) rfl)) ?_
  obtain ⟨r_24, hx_23, H⟩ := bindSome H
  rcases r_24 with p_26 | r_25
  · refine s_pan (.cons (tm rfl rfl) (.cons (tm rfl rfl) .nil)) Try.call56 (thread_thread_place.callsP a0 b_1 A_2 c_3 A_5 c_6 cs_8 cs_10 A_12 c_13 X_15 a2.n p_26 _ _ (Hp.offCov hp_21 [[(b_1, .cells (([.slice A_2 a0.code.length c_3, .int .i64 a0.locs, .int .i64 a0.base, .slice A_5 a0.answers.length c_6] : List Value) ++ (cs_8 ++ (([] : List Value) ++ (cs_10 ++ ([.bool a0.less, .bool a0.same, .int .u64 a0.held, .int .u64 a0.ctrl, .int .u64 a0.fenced, .int .i64 a0.hold, .int .i64 a0.event, .slice A_12 a0.out.length c_13] : List Value))))).toArray 59 (0, 0))], X_15] [[(b_16, .cells #[.int .i64 a1.Op, .int .i64 a1.T, .int .i64 a1.A, .int .i64 a1.B, .int .i64 a1.Imm] 44 (0, 0))], [(b_19, .cells #[.int .i64 a2.n, .int .u64 a2.hang] 55 (0, 0))]] rfl) (Hp.have1 hp_21 [[(b_1, .cells (([.slice A_2 a0.code.length c_3, .int .i64 a0.locs, .int .i64 a0.base, .slice A_5 a0.answers.length c_6] : List Value) ++ (cs_8 ++ (([] : List Value) ++ (cs_10 ++ ([.bool a0.less, .bool a0.same, .int .u64 a0.held, .int .u64 a0.ctrl, .int .u64 a0.fenced, .int .i64 a0.hold, .int .i64 a0.event, .slice A_12 a0.out.length c_13] : List Value))))).toArray 59 (0, 0))], X_15] _ rfl) (RdS.pass q_4 hp_21) (RdS.pass q_7 hp_21) q_9 q_11 q_14 hx_23) ?_
    rintro c_ w_128 ⟨rfl, af_131⟩
    have hp_129 := Hp.callA af_131 hp_21
    obtain rfl := Option.some.inj H
    refine ⟨rfl, ?_⟩
    exact .inr ⟨_, rfl, _, rfl, ⟨A_5, c_6, cs_8, cs_10, A_12, c_13, X_15, rfl, q_4, q_7, q_9, q_11, q_14, (hp_129.pick [0, 1] (by decide) rfl).aft⟩⟩
  refine s_call (.cons (tm rfl rfl) (.cons (tm rfl rfl) .nil)) Try.call56 (thread_thread_place.calls a0 b_1 A_2 c_3 A_5 c_6 cs_8 cs_10 A_12 c_13 X_15 a2.n r_25 _ _ (Hp.offCov hp_21 [[(b_1, .cells (([.slice A_2 a0.code.length c_3, .int .i64 a0.locs, .int .i64 a0.base, .slice A_5 a0.answers.length c_6] : List Value) ++ (cs_8 ++ (([] : List Value) ++ (cs_10 ++ ([.bool a0.less, .bool a0.same, .int .u64 a0.held, .int .u64 a0.ctrl, .int .u64 a0.fenced, .int .i64 a0.hold, .int .i64 a0.event, .slice A_12 a0.out.length c_13] : List Value))))).toArray 59 (0, 0))], X_15] [[(b_16, .cells #[.int .i64 a1.Op, .int .i64 a1.T, .int .i64 a1.A, .int .i64 a1.B, .int .i64 a1.Imm] 44 (0, 0))], [(b_19, .cells #[.int .i64 a2.n, .int .u64 a2.hang] 55 (0, 0))]] rfl) (Hp.have1 hp_21 [[(b_1, .cells (([.slice A_2 a0.code.length c_3, .int .i64 a0.locs, .int .i64 a0.base, .slice A_5 a0.answers.length c_6] : List Value) ++ (cs_8 ++ (([] : List Value) ++ (cs_10 ++ ([.bool a0.less, .bool a0.same, .int .u64 a0.held, .int .u64 a0.ctrl, .int .u64 a0.fenced, .int .i64 a0.hold, .int .i64 a0.event, .slice A_12 a0.out.length c_13] : List Value))))).toArray 59 (0, 0))], X_15] _ rfl) (RdS.pass q_4 hp_21) (RdS.pass q_7 hp_21) q_9 q_11 q_14 hx_23) rfl ?_
  rintro v_ w_28 ⟨rfl, af_31⟩
  have hp_29 := Hp.callA af_31 hp_21
  refine sv (v := .int .i64 r_25) rfl rfl rfl (e_assign (tm rfl rfl)) ?_
  refine k_nil ?_
  refine k_seq ?_
  refine k_seq ?_
  refine k_region ?_
  refine sv (v := .int .i64 r_25) rfl rfl rfl (e_move (tm rfl rfl)) ?_
  refine sv (v := .bool (decide (r_25 < 0))) rfl rfl rfl (e_bin (tm rfl rfl) rfl (r_lss rfl)) ?_
  refine k_nil ?_
  refine k_if (tm rfl rfl) (fun h_32 => ?_) (fun h_32 => ?_)
  · as_aux_lemma =>
      have H := ift h_32 H
      refine k_seq ?_
      refine k_seq ?_
      refine k_region ?_
      refine sv (v := .pointer (some ⟨b_1, 0, none⟩)) rfl rfl rfl (e_move (tm rfl rfl)) ?_
      refine sv (v := .int .i64 r_25) rfl rfl rfl (e_move (tm rfl rfl)) ?_
      refine sv (v := .int .i64 (wrap64 ((-1) - r_25))) rfl rfl rfl (e_bin rfl (tm rfl rfl) (r_sub (wrap_i64 _))) ?_
      refine sv (v := .pointer (some ⟨b_1, 0, none⟩)) rfl rfl rfl (e_nilCheckP (tm rfl rfl)) ?_
      refine sv (v := .pointer (some ⟨b_1, 68, none⟩)) rfl rfl rfl (e_fieldAddr (tm rfl rfl) Try.runUnderlying59 rfl Try.sizeOf57 rfl rfl) ?_
      obtain ⟨g_33, H⟩ := grd H
      obtain ⟨cs_35, rp_34, q_36⟩ := arr_elem q_11 g_33
      obtain rfl : cs_35 = [.int .i64 ((vg a0.stack (wrap64 ((-1) - r_25))).n), .int .u64 ((vg a0.stack (wrap64 ((-1) - r_25))).hang)] := rp_34
      refine sv (v := .pointer (some ⟨b_1, 68 + (wrap64 ((-1) - r_25) : Int).toNat * 2, none⟩)) rfl rfl rfl (e_aidx (tm rfl rfl) (tm rfl rfl) Try.runUnderlying57 Try.sizeOf55 g_33) ?_
      refine sv (v := .agg #[.int .i64 ((vg a0.stack (wrap64 ((-1) - r_25))).n), .int .u64 ((vg a0.stack (wrap64 ((-1) - r_25))).hang)]) rfl rfl rfl (e_loadA (tm rfl rfl) Try.isAgg55 Try.sizeOf55 rfl ((arr_at (pre := (([.slice A_2 a0.code.length c_3, .int .i64 a0.locs, .int .i64 a0.base, .slice A_5 a0.answers.length c_6] : List Value) ++ (cs_8 ++ ([] : List Value)))) (post := ([.bool a0.less, .bool a0.same, .int .u64 a0.held, .int .u64 a0.ctrl, .int .u64 a0.fenced, .int .i64 a0.hold, .int .i64 a0.event, .slice A_12 a0.out.length c_13] : List Value)) (hp_29.get (i := 0) (j := 0) rfl rfl) (by simp only [List.append_assoc]) (lenA rfl (lenA (arr_len q_9 rfl) rfl)) q_36))) ?_
      refine s_alloc (zv := .agg #[.int .i64 0, .int .u64 0]) (l := [.int .i64 0, .int .u64 0]) hp_29 (by intro w_; kernel_rfl) rfl rfl (fun b_37 w_38 hp_39 => ?_)
      refine s_store (i := 4) (j := 0) (vs := [.int .i64 ((vg a0.stack (wrap64 ((-1) - r_25))).n), .int .u64 ((vg a0.stack (wrap64 ((-1) - r_25))).hang)]) (l' := [.int .i64 ((vg a0.stack (wrap64 ((-1) - r_25))).n), .int .u64 ((vg a0.stack (wrap64 ((-1) - r_25))).hang)]) hp_39 (tm rfl rfl) (tm rfl rfl) rfl Try.sizeOf55 rfl rfl rfl rfl rfl rfl (fun w_40 hp_41 => ?_)
      refine k_nil ?_
      refine k_if_t rfl ?_
      refine k_any (WF F w [[(b_1, .cells (([.slice A_2 a0.code.length c_3, .int .i64 a0.locs, .int .i64 a0.base, .slice A_5 a0.answers.length c_6] : List Value) ++ (cs_8 ++ (([] : List Value) ++ (cs_10 ++ ([.bool a0.less, .bool a0.same, .int .u64 a0.held, .int .u64 a0.ctrl, .int .u64 a0.fenced, .int .i64 a0.hold, .int .i64 a0.event, .slice A_12 a0.out.length c_13] : List Value))))).toArray 59 (0, 0))], X_15, [(b_16, .cells #[.int .i64 a1.Op, .int .i64 a1.T, .int .i64 a1.A, .int .i64 a1.B, .int .i64 a1.Imm] 44 (0, 0))], [(b_19, .cells #[.int .i64 a2.n, .int .u64 a2.hang] 55 (0, 0))], [(b_37, .cells #[.int .i64 ((vg a0.stack (wrap64 ((-1) - r_25))).n), .int .u64 ((vg a0.stack (wrap64 ((-1) - r_25))).hang)] 55 (0, 0))]] [[0, 1, 2, 3, 4], [0, 1, 2, 3, 4], [0, 1, 2, 3, 4], [0, 1, 2, 3, 4], [0, 1, 2, 3, 4], [0, 1, 2, 3, 4], [0, 1, 2, 3, 4], [0, 1, 2, 3, 4], [0, 1, 2, 3, 4], [0, 1, 2, 3, 4], [0, 1, 2, 3, 4], [0, 1, 2, 3, 4], [0, 1, 2, 3, 4], [0, 1, 2, 3, 4], [1, 2, 3, 4]] [0, 0, 2, 0, 8, 0, 32, 0, 128, 480, 1016, 1, 2049, 8191, 16383]) mixed hp_41 15 (by kernel_rfl) (fun w_42 hp_43 => ?_)
      refine w_take (m' := 1) (v := .pointer (some ⟨b_1, 0, none⟩)) 0 rfl rfl (by kernel_rfl) (by kernel_rfl) (by kernel_rfl) (by kernel_rfl) (by kernel_rfl) (by kernel_rfl) (by kernel_rfl) (po_then po_body) (Wp.of hp_43 [0, 1, 2, 3, 4] rfl) (y_val (fun w_ hW_ => e_move (tm rfl rfl))) ?_
      refine w_take (m' := 3) (v := .pointer (some ⟨b_16, 1, none⟩)) 1 rfl rfl (by kernel_rfl) (by kernel_rfl) (by kernel_rfl) (by kernel_rfl) (by kernel_rfl) (by kernel_rfl) (by kernel_rfl) (po_then po_body) (Wp.of hp_43 [0, 1, 2, 3, 4] rfl) (y_val (fun w_ hW_ => e_fieldAddr (tm rfl rfl) Try.runUnderlying44 rfl Try.sizeOf3 rfl rfl)) ?_
      refine w_take (m' := 11) (v := .pointer (some ⟨b_37, 0, none⟩)) 3 rfl rfl (by kernel_rfl) (by kernel_rfl) (by kernel_rfl) (by kernel_rfl) (by kernel_rfl) (by kernel_rfl) (by kernel_rfl) (po_then po_body) (Wp.of hp_43 [0, 1, 2, 3, 4] rfl) (y_val (fun w_ hW_ => e_fieldAddr (tm rfl rfl) Try.runUnderlying55 rfl Try.sizeOf2 rfl rfl)) ?_
      refine w_take (m' := 43) (v := .pointer (some ⟨b_37, 1, none⟩)) 5 rfl rfl (by kernel_rfl) (by kernel_rfl) (by kernel_rfl) (by kernel_rfl) (by kernel_rfl) (by kernel_rfl) (by kernel_rfl) (po_then po_body) (Wp.of hp_43 [0, 1, 2, 3, 4] rfl) (y_val (fun w_ hW_ => e_fieldAddr (tm rfl rfl) Try.runUnderlying55 rfl Try.sizeOf31 rfl rfl)) ?_
      refine w_take (m' := 171) (v := .pointer (some ⟨b_19, 1, none⟩)) 7 rfl rfl (by kernel_rfl) (by kernel_rfl) (by kernel_rfl) (by kernel_rfl) (by kernel_rfl) (by kernel_rfl) (by kernel_rfl) (po_then po_body) (Wp.of hp_43 [0, 1, 2, 3, 4] rfl) (y_val (fun w_ hW_ => e_fieldAddr (tm rfl rfl) Try.runUnderlying55 rfl Try.sizeOf31 rfl rfl)) ?_
      refine w_take (m' := 2219) (v := .pointer (some ⟨b_1, 0, none⟩)) 11 rfl rfl (by kernel_rfl) (by kernel_rfl) (by kernel_rfl) (by kernel_rfl) (by kernel_rfl) (by kernel_rfl) (by kernel_rfl) (po_then po_body) (Wp.of hp_43 [0, 1, 2, 3, 4] rfl) (y_val (fun w_ hW_ => e_nilCheckP (tm rfl rfl))) ?_
      refine w_take (m' := 6315) (v := .pointer (some ⟨b_1, 4, none⟩)) 12 rfl rfl (by kernel_rfl) (by kernel_rfl) (by kernel_rfl) (by kernel_rfl) (by kernel_rfl) (by kernel_rfl) (by kernel_rfl) (po_then po_body) (Wp.of hp_43 [0, 1, 2, 3, 4] rfl) (y_val (fun w_ hW_ => e_fieldAddr (tm rfl rfl) Try.runUnderlying59 rfl Try.sizeOf56 rfl rfl)) ?_
      refine w_take (m' := 6319) (v := .int .i64 a1.T) 2 rfl rfl (by kernel_rfl) (by kernel_rfl) (by kernel_rfl) (by kernel_rfl) (by kernel_rfl) (by kernel_rfl) (by kernel_rfl) (po_then po_body) (Wp.of hp_43 [0, 1, 2, 3, 4] rfl) (y_val (fun w_ hW_ => e_load1 (tm rfl rfl) Try.isAgg3 (cell_atL (hW_.get (i := 2) (j := 0) rfl rfl) rfl))) ?_
      refine w_take (m' := 6335) (v := .int .i64 ((vg a0.stack (wrap64 ((-1) - r_25))).n)) 4 rfl rfl (by kernel_rfl) (by kernel_rfl) (by kernel_rfl) (by kernel_rfl) (by kernel_rfl) (by kernel_rfl) (by kernel_rfl) (po_then po_body) (Wp.of hp_43 [0, 1, 2, 3, 4] rfl) (y_val (fun w_ hW_ => e_load1 (tm rfl rfl) Try.isAgg2 (cell_atL (hW_.get (i := 4) (j := 0) rfl rfl) rfl))) ?_
      refine w_take (m' := 6399) (v := .int .u64 ((vg a0.stack (wrap64 ((-1) - r_25))).hang)) 6 rfl rfl (by kernel_rfl) (by kernel_rfl) (by kernel_rfl) (by kernel_rfl) (by kernel_rfl) (by kernel_rfl) (by kernel_rfl) (po_then po_body) (Wp.of hp_43 [0, 1, 2, 3, 4] rfl) (y_val (fun w_ hW_ => e_load1 (tm rfl rfl) Try.isAgg31 (cell_atL (hW_.get (i := 4) (j := 0) rfl rfl) rfl))) ?_
      refine w_take (m' := 6655) (v := .int .u64 a2.hang) 8 rfl rfl (by kernel_rfl) (by kernel_rfl) (by kernel_rfl) (by kernel_rfl) (by kernel_rfl) (by kernel_rfl) (by kernel_rfl) (po_then po_body) (Wp.of hp_43 [0, 1, 2, 3, 4] rfl) (y_val (fun w_ hW_ => e_load1 (tm rfl rfl) Try.isAgg31 (cell_atL (hW_.get (i := 3) (j := 0) rfl rfl) rfl))) ?_
      refine w_take (m' := 7167) (v := .int .u64 (bits .or .u64 ((vg a0.stack (wrap64 ((-1) - r_25))).hang) a2.hang)) 9 rfl rfl (by kernel_rfl) (by kernel_rfl) (by kernel_rfl) (by kernel_rfl) (by kernel_rfl) (by kernel_rfl) (by kernel_rfl) (po_then po_body) (Wp.of hp_43 [0, 1, 2, 3, 4] rfl) (y_val (fun w_ hW_ => e_bin (tm rfl rfl) (tm rfl rfl) (r_bits (by simp) rfl))) ?_
      refine w_take (m' := 8191) (v := .agg #[.int .i64 ((vg a0.stack (wrap64 ((-1) - r_25))).n), .int .u64 (bits .or .u64 ((vg a0.stack (wrap64 ((-1) - r_25))).hang) a2.hang)]) 10 rfl rfl (by kernel_rfl) (by kernel_rfl) (by kernel_rfl) (by kernel_rfl) (by kernel_rfl) (by kernel_rfl) (by kernel_rfl) (po_then po_body) (Wp.of hp_43 [0, 1, 2, 3, 4] rfl) (y_val (fun w_ hW_ => e_build (vs := [(0, .int .i64 ((vg a0.stack (wrap64 ((-1) - r_25))).n)), (1, .int .u64 (bits .or .u64 ((vg a0.stack (wrap64 ((-1) - r_25))).hang) a2.hang))]) (cs := [.int .i64 ((vg a0.stack (wrap64 ((-1) - r_25))).n), .int .u64 (bits .or .u64 ((vg a0.stack (wrap64 ((-1) - r_25))).hang) a2.hang)]) (.cons (tm rfl rfl) (.cons (tm rfl rfl) .nil)) (by kernel_rfl))) ?_
      obtain ⟨g_44, H⟩ := grd H
      obtain ⟨cs_46, rp_45, q_47⟩ := arr_elem q_9 g_44
      obtain rfl : cs_46 = [.int .i64 ((vg a0.regs a1.T).n), .int .u64 ((vg a0.regs a1.T).hang)] := rp_45
      refine w_take (m' := 16383) (v := .pointer (some ⟨b_1, 4 + (a1.T : Int).toNat * 2, none⟩)) 13 rfl rfl (by kernel_rfl) (by kernel_rfl) (by kernel_rfl) (by kernel_rfl) (by kernel_rfl) (by kernel_rfl) (by kernel_rfl) (po_then po_body) (Wp.of hp_43 [0, 1, 2, 3, 4] rfl) (y_val (fun w_ hW_ => e_aidx (tm rfl rfl) (tm rfl rfl) Try.runUnderlying56 Try.sizeOf55 g_44)) ?_
      refine w_one (m' := 32767) 14 rfl (by kernel_rfl) (by kernel_rfl) ?_
      refine s_storeA (E := thread_cell_E) (i := a1.T) (inn := 0) (r := 0) (el := (⟨(vg a0.stack (wrap64 ((-1) - r_25))).n, bits .or .u64 ((vg a0.stack (wrap64 ((-1) - r_25))).hang) a2.hang⟩ : thread_cell)) (vs := [.int .i64 ((vg a0.stack (wrap64 ((-1) - r_25))).n), .int .u64 (bits .or .u64 ((vg a0.stack (wrap64 ((-1) - r_25))).hang) a2.hang)]) (pre := ([.slice A_2 a0.code.length c_3, .int .i64 a0.locs, .int .i64 a0.base, .slice A_5 a0.answers.length c_6] : List Value)) (post := ([] : List Value) ++ (cs_10 ++ ([.bool a0.less, .bool a0.same, .int .u64 a0.held, .int .u64 a0.ctrl, .int .u64 a0.fenced, .int .i64 a0.hold, .int .i64 a0.event, .slice A_12 a0.out.length c_13] : List Value))) (fun q_ => (([.slice A_2 a0.code.length c_3, .int .i64 a0.locs, .int .i64 a0.base, .slice A_5 a0.answers.length c_6] : List Value) ++ (q_ ++ (([] : List Value) ++ (cs_10 ++ ([.bool a0.less, .bool a0.same, .int .u64 a0.held, .int .u64 a0.ctrl, .int .u64 a0.fenced, .int .i64 a0.hold, .int .i64 a0.event, .slice A_12 a0.out.length c_13] : List Value)))))) hp_43 (tm rfl rfl) (tm rfl rfl) rfl Try.sizeOf55 rfl rfl rfl rfl (fun _ => rfl) rfl q_9 g_44 rfl q_47 rfl (fun w_48 cs_50 hp_49 q_51 => ?_)
      refine k_nil ?_
      refine ⟨(Wp.of hp_49 [1, 2, 3, 4] rfl), ?_⟩
      refine w_done (by kernel_rfl) ?_
      refine k_seq ?_
      refine k_seq ?_
      refine k_region ?_
      refine sv (v := .pointer (some ⟨b_16, 0, none⟩)) rfl rfl rfl (e_fieldAddr (tm rfl rfl) Try.runUnderlying44 rfl Try.sizeOf3 rfl rfl) ?_
      refine sv (v := .int .i64 a1.Op) rfl rfl rfl (e_load1 (tm rfl rfl) Try.isAgg3 (cell_atL (hp_49.get (i := 2) (j := 0) rfl rfl) rfl)) ?_
      refine sv (v := .bool (decide (a1.Op = 14))) rfl rfl rfl (e_bin (tm rfl rfl) rfl (r_eql rfl)) ?_
      refine k_nil ?_
      obtain ⟨o_52, H, G_53⟩ := bindSome H
      refine k_cut (fun a w' => ∃ (σ_62 : Nat → Value), a = st 98 [] σ_62 [] ∧ Hp (On [[(b_1, .cells (([.slice A_2 a0.code.length c_3, .int .i64 a0.locs, .int .i64 a0.base, .slice A_5 a0.answers.length c_6] : List Value) ++ (cs_8 ++ (([] : List Value) ++ (cs_10 ++ ([.bool a0.less, .bool a0.same, .int .u64 a0.held, .int .u64 a0.ctrl, .int .u64 a0.fenced, .int .i64 a0.hold, .int .i64 a0.event, .slice A_12 a0.out.length c_13] : List Value))))).toArray 59 (0, 0))], X_15]) F w w w' [[(b_1, .cells (([.slice A_2 a0.code.length c_3, .int .i64 a0.locs, .int .i64 a0.base, .slice A_5 a0.answers.length c_6] : List Value) ++ (cs_50 ++ (([] : List Value) ++ (cs_10 ++ ([.bool a0.less, .bool a0.same, .int .u64 a0.held, .int .u64 a0.ctrl, .int .u64 a0.fenced, .int .i64 o_52, .int .i64 a0.event, .slice A_12 a0.out.length c_13] : List Value))))).toArray 59 (0, 0))], X_15]) ?_ ?_
      · refine k_if (tm rfl rfl) (fun h_54 => ?_) (fun h_54 => ?_)
        · have H := ift h_54 H
          refine k_region ?_
          refine sv (v := .pointer (some ⟨b_1, 0, none⟩)) rfl rfl rfl (e_move (tm rfl rfl)) ?_
          refine sv (v := .pointer (some ⟨b_1, 0, none⟩)) rfl rfl rfl (e_nilCheckP (tm rfl rfl)) ?_
          refine sv (v := .pointer (some ⟨b_1, 873, none⟩)) rfl rfl rfl (e_fieldAddr (tm rfl rfl) Try.runUnderlying59 rfl Try.sizeOf3 rfl rfl) ?_
          refine s_store (i := 0) (j := 0) (vs := [.int .i64 (-1)]) (l' := (([.slice A_2 a0.code.length c_3, .int .i64 a0.locs, .int .i64 a0.base, .slice A_5 a0.answers.length c_6] : List Value) ++ (cs_50 ++ (([] : List Value) ++ (cs_10 ++ ([.bool a0.less, .bool a0.same, .int .u64 a0.held, .int .u64 a0.ctrl, .int .u64 a0.fenced, .int .i64 (-1), .int .i64 a0.event, .slice A_12 a0.out.length c_13] : List Value)))))) hp_49 (tm rfl rfl) rfl rfl Try.sizeOf3 rfl rfl rfl rfl (ble_len (lenA rfl (lenA (arr_len q_51 rfl) (lenA rfl (lenA (arr_len q_11 rfl) rfl)))) rfl) (segu 4 869 rfl (segu 64 805 (arr_len q_51 rfl) (segu 0 805 rfl (segu 800 5 (arr_len q_11 rfl) rfl)))) (fun w_55 hp_56 => ?_)
          refine k_nil ?_
          obtain rfl := Option.some.inj H
          exact ⟨_, seenF trivial, hp_56.pick [0, 1] (by decide) rfl⟩
        have H := iff_ h_54 H
        refine k_skip ?_
        obtain rfl := Option.some.inj H
        exact ⟨_, seenF trivial, hp_49.pick [0, 1] (by decide) rfl⟩
      clear H
      rintro a w' ⟨σ_57, rfl, hp_58⟩
      have H := G_53
      refine k_ret ?_
      obtain rfl := Option.some.inj H
      exact k_endP rfl .nil rfl ⟨_, rfl, ⟨A_5, c_6, cs_50, cs_10, A_12, c_13, X_15, rfl, q_4, q_7, q_51, q_11, q_14, (hp_58).aft⟩⟩
  have H := iff_ h_32 H
  refine k_skip ?_
  refine k_seq ?_
  refine k_seq ?_
  refine k_region ?_
  refine sv (v := .pointer (some ⟨b_1, 0, none⟩)) rfl rfl rfl (e_move (tm rfl rfl)) ?_
  refine sv (v := .pointer (some ⟨b_1, 0, none⟩)) rfl rfl rfl (e_nilCheckP (tm rfl rfl)) ?_
  refine sv (v := .pointer (some ⟨b_1, 3, none⟩)) rfl rfl rfl (e_fieldAddr (tm rfl rfl) Try.runUnderlying59 rfl Try.sizeOf23 rfl rfl) ?_
  refine sv (v := .slice A_5 a0.answers.length c_6) rfl rfl rfl (e_load1 (tm rfl rfl) Try.isAgg23 (cell_atL (hp_29.get (i := 0) (j := 0) rfl rfl) rfl)) ?_
  refine sv (v := .int .i64 (a0.answers.length : Int)) rfl rfl rfl (e_builtin (.cons (tm rfl rfl) .nil) (r_lens Try.runUnderlying23)) ?_
  refine sv (v := .bool (decide ((a0.answers.length : Int) = 0))) rfl rfl rfl (e_bin (tm rfl rfl) rfl (r_eql rfl)) ?_
  refine k_nil ?_
  refine k_if (tm rfl rfl) (fun h_62 => ?_) (fun h_62 => ?_)
  · have H := ift h_62 H
    refine k_region ?_
    refine sv (v := .iface 60 (.int .i64 4)) rfl rfl rfl (e_makeIface rfl Try.runUnderlying60 rfl) ?_
    refine s_panic (tm rfl rfl) ?_
    obtain rfl := Option.some.inj H
    refine ⟨rfl, ?_⟩
    exact .inr ⟨_, rfl, _, rfl, ⟨A_5, c_6, cs_8, cs_10, A_12, c_13, X_15, rfl, q_4, q_7, q_9, q_11, q_14, (hp_29.pick [0, 1] (by decide) rfl).aft⟩⟩
  have H := iff_ h_62 H
  refine k_skip ?_
  refine k_seq ?_
  refine k_region ?_
  refine sv (v := .pointer (some ⟨b_1, 0, none⟩)) rfl rfl rfl (e_move (tm rfl rfl)) ?_
  refine sv (v := .pointer (some ⟨b_1, 0, none⟩)) rfl rfl rfl (e_nilCheckP (tm rfl rfl)) ?_
  refine sv (v := .pointer (some ⟨b_1, 3, none⟩)) rfl rfl rfl (e_fieldAddr (tm rfl rfl) Try.runUnderlying59 rfl Try.sizeOf23 rfl rfl) ?_
  refine sv (v := .slice A_5 a0.answers.length c_6) rfl rfl rfl (e_load1 (tm rfl rfl) Try.isAgg23 (cell_atL (hp_29.get (i := 0) (j := 0) rfl rfl) rfl)) ?_
  obtain ⟨g_63, H⟩ := grd H
  obtain ⟨a_68, cs_65, pl_66, q_67, rp_64⟩ := rd_idx q_7 g_63
  obtain rfl : cs_65 = [.int .i64 (gi a0.answers 0)] := rp_64
  refine sv (v := .pointer (some a_68)) rfl rfl rfl (e_idx (tm rfl rfl) rfl Try.runUnderlying23 Try.sizeOf2 pl_66 g_63) ?_
  refine sv (v := .int .i64 (gi a0.answers 0)) rfl rfl rfl (e_load1 (tm rfl rfl) Try.isAgg2 (cells_zero (hp_29.ep q_67) rfl)) ?_
  refine sv (v := .int .i64 (gi a0.answers 0)) rfl rfl rfl (e_assign (tm rfl rfl)) ?_
  refine k_nil ?_
  refine k_seq ?_
  refine k_region ?_
  refine sv (v := .pointer (some ⟨b_1, 0, none⟩)) rfl rfl rfl (e_move (tm rfl rfl)) ?_
  refine sv (v := .pointer (some ⟨b_1, 0, none⟩)) rfl rfl rfl (e_nilCheckP (tm rfl rfl)) ?_
  refine sv (v := .pointer (some ⟨b_1, 875, none⟩)) rfl rfl rfl (e_fieldAddr (tm rfl rfl) Try.runUnderlying59 rfl Try.sizeOf26 rfl rfl) ?_
  refine sv (v := .slice A_12 a0.out.length c_13) rfl rfl rfl (e_load1 (tm rfl rfl) Try.isAgg26 (cell_atL (hp_29.get (i := 0) (j := 0) rfl rfl) (seg 4 871 rfl (seg 64 807 (arr_len q_9 rfl) (seg 0 807 rfl (seg 800 7 (arr_len q_11 rfl) rfl)))))) ?_
  refine sv (v := .int .i64 (a0.out.length : Int)) rfl rfl rfl (e_builtin (.cons (tm rfl rfl) .nil) (r_lens Try.runUnderlying26)) ?_
  refine sv (v := .int .i64 (a0.out.length : Int)) rfl rfl rfl (e_assign (tm rfl rfl)) ?_
  refine k_nil ?_
  refine k_seq ?_
  refine k_region ?_
  refine sv (v := .pointer (some ⟨b_1, 0, none⟩)) rfl rfl rfl (e_move (tm rfl rfl)) ?_
  refine sv (v := .int .i64 r_25) rfl rfl rfl (e_move (tm rfl rfl)) ?_
  refine sv (v := .int .i64 (gi a0.answers 0)) rfl rfl rfl (e_move (tm rfl rfl)) ?_
  refine sv (v := .pointer (some ⟨b_19, 1, none⟩)) rfl rfl rfl (e_fieldAddr (tm rfl rfl) Try.runUnderlying55 rfl Try.sizeOf31 rfl rfl) ?_
  refine sv (v := .int .u64 a2.hang) rfl rfl rfl (e_load1 (tm rfl rfl) Try.isAgg31 (cell_atL (hp_29.get (i := 3) (j := 0) rfl rfl) rfl)) ?_
  refine sv (v := .agg #[.int .i64 1, .int .i64 r_25, .int .i64 (gi a0.answers 0), .int .i64 0, .int .u64 a2.hang, .int .u64 0, .int .u64 0, .int .u64 0]) rfl rfl rfl (e_build (vs := [(0, .int .i64 1), (1, .int .i64 r_25), (2, .int .i64 (gi a0.answers 0)), (4, .int .u64 a2.hang)]) (cs := [.int .i64 1, .int .i64 r_25, .int .i64 (gi a0.answers 0), .int .i64 0, .int .u64 a2.hang, .int .u64 0, .int .u64 0, .int .u64 0]) (.cons rfl (.cons (tm rfl rfl) (.cons (tm rfl rfl) (.cons (tm rfl rfl) .nil)))) (by kernel_rfl)) ?_
  obtain ⟨r_71, hx_70, H⟩ := bindSome H
  rcases r_71 with p_73 | r_72
  · refine s_pan (.cons (tm rfl rfl) (.cons (tm rfl rfl) .nil)) Try.call40 (thread_thread_tell.callsP a0 b_1 A_2 c_3 A_5 c_6 cs_8 cs_10 A_12 c_13 X_15 (⟨1, r_25, (gi a0.answers 0), 0, a2.hang, 0, 0, 0⟩ : api_Event) p_73 _ _ (Hp.offI hp_29 [[(b_1, .cells (([.slice A_2 a0.code.length c_3, .int .i64 a0.locs, .int .i64 a0.base, .slice A_5 a0.answers.length c_6] : List Value) ++ (cs_8 ++ (([] : List Value) ++ (cs_10 ++ ([.bool a0.less, .bool a0.same, .int .u64 a0.held, .int .u64 a0.ctrl, .int .u64 a0.fenced, .int .i64 a0.hold, .int .i64 a0.event, .slice A_12 a0.out.length c_13] : List Value))))).toArray 59 (0, 0))], X_15] _ rfl) (Hp.have1 hp_29 [[(b_1, .cells (([.slice A_2 a0.code.length c_3, .int .i64 a0.locs, .int .i64 a0.base, .slice A_5 a0.answers.length c_6] : List Value) ++ (cs_8 ++ (([] : List Value) ++ (cs_10 ++ ([.bool a0.less, .bool a0.same, .int .u64 a0.held, .int .u64 a0.ctrl, .int .u64 a0.fenced, .int .i64 a0.hold, .int .i64 a0.event, .slice A_12 a0.out.length c_13] : List Value))))).toArray 59 (0, 0))], X_15] _ rfl) (RdS.now q_4 hp_29) (RdS.now q_7 hp_29) q_9 q_11 q_14 hx_70) ?_
    rintro c_ w_112 ⟨cs_118, cs_120, A_122, c_123, X_125, rfl, q_116, q_117, q_119, q_121, q_124, af_115⟩
    have hp_113 := Hp.callA af_115 hp_29
    have q_126 := q_116.up (Hp.down hp_29)
    have q_127 := q_117.up (Hp.down hp_29)
    obtain rfl := Option.some.inj H
    refine ⟨rfl, ?_⟩
    exact .inr ⟨_, rfl, _, rfl, ⟨A_5, c_6, cs_118, cs_120, A_122, c_123, X_125, rfl, q_126, q_127, q_119, q_121, q_124, (hp_113.pick [0, 1] (by decide) rfl).aft⟩⟩
  refine s_call (.cons (tm rfl rfl) (.cons (tm rfl rfl) .nil)) Try.call40 (thread_thread_tell.calls a0 b_1 A_2 c_3 A_5 c_6 cs_8 cs_10 A_12 c_13 X_15 (⟨1, r_25, (gi a0.answers 0), 0, a2.hang, 0, 0, 0⟩ : api_Event) r_72 _ _ (Hp.offI hp_29 [[(b_1, .cells (([.slice A_2 a0.code.length c_3, .int .i64 a0.locs, .int .i64 a0.base, .slice A_5 a0.answers.length c_6] : List Value) ++ (cs_8 ++ (([] : List Value) ++ (cs_10 ++ ([.bool a0.less, .bool a0.same, .int .u64 a0.held, .int .u64 a0.ctrl, .int .u64 a0.fenced, .int .i64 a0.hold, .int .i64 a0.event, .slice A_12 a0.out.length c_13] : List Value))))).toArray 59 (0, 0))], X_15] _ rfl) (Hp.have1 hp_29 [[(b_1, .cells (([.slice A_2 a0.code.length c_3, .int .i64 a0.locs, .int .i64 a0.base, .slice A_5 a0.answers.length c_6] : List Value) ++ (cs_8 ++ (([] : List Value) ++ (cs_10 ++ ([.bool a0.less, .bool a0.same, .int .u64 a0.held, .int .u64 a0.ctrl, .int .u64 a0.fenced, .int .i64 a0.hold, .int .i64 a0.event, .slice A_12 a0.out.length c_13] : List Value))))).toArray 59 (0, 0))], X_15] _ rfl) (RdS.now q_4 hp_29) (RdS.now q_7 hp_29) q_9 q_11 q_14 hx_70) rfl ?_
  rintro v_ w_75 ⟨cs_81, cs_83, A_85, c_86, X_88, rfl, q_79, q_80, q_82, q_84, q_87, af_78⟩
  have hp_76 := Hp.callA af_78 hp_29
  have q_89 := q_79.up (Hp.down hp_29)
  have q_90 := q_80.up (Hp.down hp_29)
  refine k_nil ?_
  refine k_seq ?_
  refine k_region ?_
  refine sv (v := .pointer (some ⟨b_1, 0, none⟩)) rfl rfl rfl (e_move (tm rfl rfl)) ?_
  refine sv (v := .pointer (some ⟨b_1, 0, none⟩)) rfl rfl rfl (e_move (tm rfl rfl)) ?_
  refine sv (v := .pointer (some ⟨b_1, 0, none⟩)) rfl rfl rfl (e_nilCheckP (tm rfl rfl)) ?_
  refine sv (v := .pointer (some ⟨b_1, 3, none⟩)) rfl rfl rfl (e_fieldAddr (tm rfl rfl) Try.runUnderlying59 rfl Try.sizeOf23 rfl rfl) ?_
  refine sv (v := .slice A_5 r_72.answers.length c_6) rfl rfl rfl (e_load1 (tm rfl rfl) Try.isAgg23 (cell_atL (hp_76.get (i := 0) (j := 0) rfl rfl) rfl)) ?_
  obtain ⟨g_91, H⟩ := grd H
  obtain ⟨A_92, q_93, ct_94⟩ := ct_D (kl := .i64) (kh := .i64) (l := 1) (h := (r_72.answers.length : Int)) (t := 23) Try.runUnderlying23 Try.sizeOf2 g_91 q_90
  refine sv (v := .slice A_92 (r_72.answers.drop (1 : Int).toNat).length (c_6 - (1 : Int).toNat)) rfl rfl rfl (ct_94 (tm rfl rfl) (.inl (congrArg some rfl)) (.inr ⟨rfl, rfl⟩)) ?_
  refine sv (v := .pointer (some ⟨b_1, 0, none⟩)) rfl rfl rfl (e_nilCheckP (tm rfl rfl)) ?_
  refine sv (v := .pointer (some ⟨b_1, 3, none⟩)) rfl rfl rfl (e_fieldAddr (tm rfl rfl) Try.runUnderlying59 rfl Try.sizeOf23 rfl rfl) ?_
  refine s_store (i := 0) (j := 0) (vs := [.slice A_92 (r_72.answers.drop (1 : Int).toNat).length (c_6 - (1 : Int).toNat)]) (l' := (([.slice A_2 r_72.code.length c_3, .int .i64 r_72.locs, .int .i64 r_72.base, .slice A_92 (r_72.answers.drop (1 : Int).toNat).length (c_6 - (1 : Int).toNat)] : List Value) ++ (cs_81 ++ (([] : List Value) ++ (cs_83 ++ ([.bool r_72.less, .bool r_72.same, .int .u64 r_72.held, .int .u64 r_72.ctrl, .int .u64 r_72.fenced, .int .i64 r_72.hold, .int .i64 r_72.event, .slice A_85 r_72.out.length c_86] : List Value)))))) hp_76 (tm rfl rfl) (tm rfl rfl) rfl Try.sizeOf23 rfl rfl rfl rfl (ble_len (lenA rfl (lenA (arr_len q_82 rfl) (lenA rfl (lenA (arr_len q_84 rfl) rfl)))) rfl) rfl (fun w_95 hp_96 => ?_)
  refine k_nil ?_
  refine k_seq ?_
  refine k_any (WF F w [[(b_1, .cells (([.slice A_2 r_72.code.length c_3, .int .i64 r_72.locs, .int .i64 r_72.base, .slice A_92 (r_72.answers.drop (1 : Int).toNat).length (c_6 - (1 : Int).toNat)] : List Value) ++ (cs_81 ++ (([] : List Value) ++ (cs_83 ++ ([.bool r_72.less, .bool r_72.same, .int .u64 r_72.held, .int .u64 r_72.ctrl, .int .u64 r_72.fenced, .int .i64 r_72.hold, .int .i64 r_72.event, .slice A_85 r_72.out.length c_86] : List Value))))).toArray 59 (0, 0))], X_88, [(b_16, .cells #[.int .i64 a1.Op, .int .i64 a1.T, .int .i64 a1.A, .int .i64 a1.B, .int .i64 a1.Imm] 44 (0, 0))], [(b_19, .cells #[.int .i64 a2.n, .int .u64 a2.hang] 55 (0, 0))]] [[0, 1, 2, 3], [0, 1, 2, 3], [0, 1, 2, 3], [0, 1, 2, 3], [0, 1, 2, 3], [0, 1, 2, 3], [0, 1, 2, 3], [0, 1, 2, 3], [0, 1, 2, 3], [0, 1, 2, 3], [0, 1, 2, 3], [1, 2, 3]] [0, 0, 2, 0, 0, 16, 48, 120, 1, 257, 1023, 2047]) mixed hp_96 12 (by kernel_rfl) (fun w_97 hp_98 => ?_)
  refine w_take (m' := 1) (v := .pointer (some ⟨b_1, 0, none⟩)) 0 rfl rfl (by kernel_rfl) (by kernel_rfl) (by kernel_rfl) (by kernel_rfl) (by kernel_rfl) (by kernel_rfl) (by kernel_rfl) (po_then po_body) (Wp.of hp_98 [0, 1, 2, 3] rfl) (y_val (fun w_ hW_ => e_move (tm rfl rfl))) ?_
  refine w_take (m' := 3) (v := .pointer (some ⟨b_16, 1, none⟩)) 1 rfl rfl (by kernel_rfl) (by kernel_rfl) (by kernel_rfl) (by kernel_rfl) (by kernel_rfl) (by kernel_rfl) (by kernel_rfl) (po_then po_body) (Wp.of hp_98 [0, 1, 2, 3] rfl) (y_val (fun w_ hW_ => e_fieldAddr (tm rfl rfl) Try.runUnderlying44 rfl Try.sizeOf3 rfl rfl)) ?_
  refine w_take (m' := 11) (v := .int .i64 (gi a0.answers 0)) 3 rfl rfl (by kernel_rfl) (by kernel_rfl) (by kernel_rfl) (by kernel_rfl) (by kernel_rfl) (by kernel_rfl) (by kernel_rfl) (po_then po_body) (Wp.of hp_98 [0, 1, 2, 3] rfl) (y_val (fun w_ hW_ => e_move (tm rfl rfl))) ?_
  refine w_take (m' := 27) (v := .int .i64 (a0.out.length : Int)) 4 rfl rfl (by kernel_rfl) (by kernel_rfl) (by kernel_rfl) (by kernel_rfl) (by kernel_rfl) (by kernel_rfl) (by kernel_rfl) (po_then po_body) (Wp.of hp_98 [0, 1, 2, 3] rfl) (y_val (fun w_ hW_ => e_move (tm rfl rfl))) ?_
  refine w_take (m' := 59) (v := .int .u64 (((a0.out.length : Int)) % 18446744073709551616)) 5 rfl rfl (by kernel_rfl) (by kernel_rfl) (by kernel_rfl) (by kernel_rfl) (by kernel_rfl) (by kernel_rfl) (by kernel_rfl) (po_then po_body) (Wp.of hp_98 [0, 1, 2, 3] rfl) (y_val (fun w_ hW_ => e_conv (tm rfl rfl) Try.runUnderlying3 Try.runUnderlying34 (wrap_u64 _))) ?_
  refine w_take (m' := 123) (v := .int .u64 ((1 * 2 ^ (min (((a0.out.length : Int)) % 18446744073709551616).toNat 64)) % 18446744073709551616)) 6 rfl rfl (by kernel_rfl) (by kernel_rfl) (by kernel_rfl) (by kernel_rfl) (by kernel_rfl) (by kernel_rfl) (by kernel_rfl) (po_then po_body) (Wp.of hp_98 [0, 1, 2, 3] rfl) (y_val (fun w_ hW_ => e_bin rfl (tm rfl rfl) (r_shl (Int.emod_nonneg _ (by decide)) (wrap_u64 _)))) ?_
  refine w_take (m' := 251) (v := .agg #[.int .i64 (gi a0.answers 0), .int .u64 ((1 * 2 ^ (min (((a0.out.length : Int)) % 18446744073709551616).toNat 64)) % 18446744073709551616)]) 7 rfl rfl (by kernel_rfl) (by kernel_rfl) (by kernel_rfl) (by kernel_rfl) (by kernel_rfl) (by kernel_rfl) (by kernel_rfl) (po_then po_body) (Wp.of hp_98 [0, 1, 2, 3] rfl) (y_val (fun w_ hW_ => e_build (vs := [(0, .int .i64 (gi a0.answers 0)), (1, .int .u64 ((1 * 2 ^ (min (((a0.out.length : Int)) % 18446744073709551616).toNat 64)) % 18446744073709551616))]) (cs := [.int .i64 (gi a0.answers 0), .int .u64 ((1 * 2 ^ (min (((a0.out.length : Int)) % 18446744073709551616).toNat 64)) % 18446744073709551616)]) (.cons (tm rfl rfl) (.cons (tm rfl rfl) .nil)) (by kernel_rfl))) ?_
  refine w_take (m' := 507) (v := .pointer (some ⟨b_1, 0, none⟩)) 8 rfl rfl (by kernel_rfl) (by kernel_rfl) (by kernel_rfl) (by kernel_rfl) (by kernel_rfl) (by kernel_rfl) (by kernel_rfl) (po_then po_body) (Wp.of hp_98 [0, 1, 2, 3] rfl) (y_val (fun w_ hW_ => e_nilCheckP (tm rfl rfl))) ?_
  refine w_take (m' := 1019) (v := .pointer (some ⟨b_1, 4, none⟩)) 9 rfl rfl (by kernel_rfl) (by kernel_rfl) (by kernel_rfl) (by kernel_rfl) (by kernel_rfl) (by kernel_rfl) (by kernel_rfl) (po_then po_body) (Wp.of hp_98 [0, 1, 2, 3] rfl) (y_val (fun w_ hW_ => e_fieldAddr (tm rfl rfl) Try.runUnderlying59 rfl Try.sizeOf56 rfl rfl)) ?_
  refine w_take (m' := 1023) (v := .int .i64 a1.T) 2 rfl rfl (by kernel_rfl) (by kernel_rfl) (by kernel_rfl) (by kernel_rfl) (by kernel_rfl) (by kernel_rfl) (by kernel_rfl) (po_then po_body) (Wp.of hp_98 [0, 1, 2, 3] rfl) (y_val (fun w_ hW_ => e_load1 (tm rfl rfl) Try.isAgg3 (cell_atL (hW_.get (i := 2) (j := 0) rfl rfl) rfl))) ?_
  obtain ⟨g_99, H⟩ := grd H
  obtain ⟨cs_101, rp_100, q_102⟩ := arr_elem q_82 g_99
  obtain rfl : cs_101 = [.int .i64 ((vg r_72.regs a1.T).n), .int .u64 ((vg r_72.regs a1.T).hang)] := rp_100
  refine w_take (m' := 2047) (v := .pointer (some ⟨b_1, 4 + (a1.T : Int).toNat * 2, none⟩)) 10 rfl rfl (by kernel_rfl) (by kernel_rfl) (by kernel_rfl) (by kernel_rfl) (by kernel_rfl) (by kernel_rfl) (by kernel_rfl) (po_then po_body) (Wp.of hp_98 [0, 1, 2, 3] rfl) (y_val (fun w_ hW_ => e_aidx (tm rfl rfl) (tm rfl rfl) Try.runUnderlying56 Try.sizeOf55 g_99)) ?_
  refine w_one (m' := 4095) 11 rfl (by kernel_rfl) (by kernel_rfl) ?_
  refine s_storeA (E := thread_cell_E) (i := a1.T) (inn := 0) (r := 0) (el := (⟨(gi a0.answers 0), (1 * 2 ^ (min (((a0.out.length : Int)) % 18446744073709551616).toNat 64)) % 18446744073709551616⟩ : thread_cell)) (vs := [.int .i64 (gi a0.answers 0), .int .u64 ((1 * 2 ^ (min (((a0.out.length : Int)) % 18446744073709551616).toNat 64)) % 18446744073709551616)]) (pre := ([.slice A_2 r_72.code.length c_3, .int .i64 r_72.locs, .int .i64 r_72.base, .slice A_92 (r_72.answers.drop (1 : Int).toNat).length (c_6 - (1 : Int).toNat)] : List Value)) (post := ([] : List Value) ++ (cs_83 ++ ([.bool r_72.less, .bool r_72.same, .int .u64 r_72.held, .int .u64 r_72.ctrl, .int .u64 r_72.fenced, .int .i64 r_72.hold, .int .i64 r_72.event, .slice A_85 r_72.out.length c_86] : List Value))) (fun q_ => (([.slice A_2 r_72.code.length c_3, .int .i64 r_72.locs, .int .i64 r_72.base, .slice A_92 (r_72.answers.drop (1 : Int).toNat).length (c_6 - (1 : Int).toNat)] : List Value) ++ (q_ ++ (([] : List Value) ++ (cs_83 ++ ([.bool r_72.less, .bool r_72.same, .int .u64 r_72.held, .int .u64 r_72.ctrl, .int .u64 r_72.fenced, .int .i64 r_72.hold, .int .i64 r_72.event, .slice A_85 r_72.out.length c_86] : List Value)))))) hp_98 (tm rfl rfl) (tm rfl rfl) rfl Try.sizeOf55 rfl rfl rfl rfl (fun _ => rfl) rfl q_82 g_99 rfl q_102 rfl (fun w_103 cs_105 hp_104 q_106 => ?_)
  refine k_nil ?_
  refine ⟨(Wp.of hp_104 [1, 2, 3] rfl), ?_⟩
  refine w_done (by kernel_rfl) ?_
  refine k_seq ?_
  refine k_region ?_
  refine sv (v := .pointer (some ⟨b_16, 0, none⟩)) rfl rfl rfl (e_fieldAddr (tm rfl rfl) Try.runUnderlying44 rfl Try.sizeOf3 rfl rfl) ?_
  refine sv (v := .int .i64 a1.Op) rfl rfl rfl (e_load1 (tm rfl rfl) Try.isAgg3 (cell_atL (hp_104.get (i := 2) (j := 0) rfl rfl) rfl)) ?_
  refine sv (v := .bool (decide (a1.Op = 14))) rfl rfl rfl (e_bin (tm rfl rfl) rfl (r_eql rfl)) ?_
  refine k_nil ?_
  refine k_if (tm rfl rfl) (fun h_107 => ?_) (fun h_107 => ?_)
  · have H := ift h_107 H
    refine k_region ?_
    refine sv (v := .pointer (some ⟨b_1, 0, none⟩)) rfl rfl rfl (e_move (tm rfl rfl)) ?_
    refine sv (v := .pointer (some ⟨b_1, 0, none⟩)) rfl rfl rfl (e_move (tm rfl rfl)) ?_
    refine sv (v := .int .i64 r_25) rfl rfl rfl (e_move (tm rfl rfl)) ?_
    refine sv (v := .int .i64 (a0.out.length : Int)) rfl rfl rfl (e_move (tm rfl rfl)) ?_
    refine sv (v := .pointer (some ⟨b_1, 0, none⟩)) rfl rfl rfl (e_nilCheckP (tm rfl rfl)) ?_
    refine sv (v := .pointer (some ⟨b_1, 873, none⟩)) rfl rfl rfl (e_fieldAddr (tm rfl rfl) Try.runUnderlying59 rfl Try.sizeOf3 rfl rfl) ?_
    refine s_store (i := 0) (j := 0) (vs := [.int .i64 r_25]) (l' := (([.slice A_2 r_72.code.length c_3, .int .i64 r_72.locs, .int .i64 r_72.base, .slice A_92 (r_72.answers.drop (1 : Int).toNat).length (c_6 - (1 : Int).toNat)] : List Value) ++ (cs_105 ++ (([] : List Value) ++ (cs_83 ++ ([.bool r_72.less, .bool r_72.same, .int .u64 r_72.held, .int .u64 r_72.ctrl, .int .u64 r_72.fenced, .int .i64 r_25, .int .i64 r_72.event, .slice A_85 r_72.out.length c_86] : List Value)))))) hp_104 (tm rfl rfl) (tm rfl rfl) rfl Try.sizeOf3 rfl rfl rfl rfl (ble_len (lenA rfl (lenA (arr_len q_106 rfl) (lenA rfl (lenA (arr_len q_84 rfl) rfl)))) rfl) (segu 4 869 rfl (segu 64 805 (arr_len q_106 rfl) (segu 0 805 rfl (segu 800 5 (arr_len q_84 rfl) rfl)))) (fun w_108 hp_109 => ?_)
    refine sv (v := .pointer (some ⟨b_1, 0, none⟩)) rfl rfl rfl (e_nilCheckP (tm rfl rfl)) ?_
    refine sv (v := .pointer (some ⟨b_1, 874, none⟩)) rfl rfl rfl (e_fieldAddr (tm rfl rfl) Try.runUnderlying59 rfl Try.sizeOf3 rfl rfl) ?_
    refine s_store (i := 0) (j := 0) (vs := [.int .i64 (a0.out.length : Int)]) (l' := (([.slice A_2 r_72.code.length c_3, .int .i64 r_72.locs, .int .i64 r_72.base, .slice A_92 (r_72.answers.drop (1 : Int).toNat).length (c_6 - (1 : Int).toNat)] : List Value) ++ (cs_105 ++ (([] : List Value) ++ (cs_83 ++ ([.bool r_72.less, .bool r_72.same, .int .u64 r_72.held, .int .u64 r_72.ctrl, .int .u64 r_72.fenced, .int .i64 r_25, .int .i64 (a0.out.length : Int), .slice A_85 r_72.out.length c_86] : List Value)))))) hp_109 (tm rfl rfl) (tm rfl rfl) rfl Try.sizeOf3 rfl rfl rfl rfl (ble_len (lenA rfl (lenA (arr_len q_106 rfl) (lenA rfl (lenA (arr_len q_84 rfl) rfl)))) rfl) (segu 4 870 rfl (segu 64 806 (arr_len q_106 rfl) (segu 0 806 rfl (segu 800 6 (arr_len q_84 rfl) rfl)))) (fun w_110 hp_111 => ?_)
    refine k_nil ?_
    obtain rfl := Option.some.inj H
    exact k_endPn rfl .nil rfl ⟨_, rfl, ⟨A_92, (c_6 - (1 : Int).toNat), cs_105, cs_83, A_85, c_86, X_88, rfl, q_89, q_93, q_106, q_84, q_87, (hp_111.pick [0, 1] (by decide) rfl).aft⟩⟩
  have H := iff_ h_107 H
  refine k_skip ?_
  obtain rfl := Option.some.inj H
  exact k_endPn rfl .nil rfl ⟨_, rfl, ⟨A_92, (c_6 - (1 : Int).toNat), cs_105, cs_83, A_85, c_86, X_88, rfl, q_89, q_93, q_106, q_84, q_87, (hp_104.pick [0, 1] (by decide) rfl).aft⟩⟩
theorem thread_thread_load.calls (a0 : thread_thread) (b_1 : Nat) (A_2 : Option Addr) (c_3 : Nat) (A_5 : Option Addr) (c_6 : Nat) (cs_8 : List Value) (cs_10 : List Value) (A_12 : Option Addr) (c_13 : Nat) (X_15 : Rsc) (a1 : api_Inst) (a2 : thread_cell) (r' : thread_thread) (w : World) (F : Nat → Prop) (hF : ∀ k, F k → Off w [[(b_1, .cells (([.slice A_2 a0.code.length c_3, .int .i64 a0.locs, .int .i64 a0.base, .slice A_5 a0.answers.length c_6] : List Value) ++ (cs_8 ++ (([] : List Value) ++ (cs_10 ++ ([.bool a0.less, .bool a0.same, .int .u64 a0.held, .int .u64 a0.ctrl, .int .u64 a0.fenced, .int .i64 a0.hold, .int .i64 a0.event, .slice A_12 a0.out.length c_13] : List Value))))).toArray 59 (0, 0))], X_15] k) (hX : Have w [[(b_1, .cells (([.slice A_2 a0.code.length c_3, .int .i64 a0.locs, .int .i64 a0.base, .slice A_5 a0.answers.length c_6] : List Value) ++ (cs_8 ++ (([] : List Value) ++ (cs_10 ++ ([.bool a0.less, .bool a0.same, .int .u64 a0.held, .int .u64 a0.ctrl, .int .u64 a0.fenced, .int .i64 a0.hold, .int .i64 a0.event, .slice A_12 a0.out.length c_13] : List Value))))).toArray 59 (0, 0))], X_15]) (q_4 : RdS api_Inst_E F w A_2 c_3 a0.code) (q_7 : RdS (intE .i64) F w A_5 c_6 a0.answers) (q_9 : Reps thread_cell_E no wz a0.regs.toList cs_8) (q_11 : Reps thread_cell_E no wz a0.stack.toList cs_10) (q_14 : Own api_Event_E no wz 33 A_12 c_13 a0.out X_15) (H : thread_thread_load.m a0 a1 a2 = some (Sum.inr r')) :
    Ret Try.prog 37 [.pointer (some ⟨b_1, 0, none⟩), .agg #[.int .i64 a1.Op, .int .i64 a1.T, .int .i64 a1.A, .int .i64 a1.B, .int .i64 a1.Imm], .agg #[.int .i64 a2.n, .int .u64 a2.hang]] w fun v w' => ∃ (A_1133 : Option Addr) (c_1134 : Nat) (cs_1136 : List Value) (cs_1138 : List Value) (A_1140 : Option Addr) (c_1141 : Nat) (X_1143 : Rsc), v = .tuple #[] ∧ RdS api_Inst_E F w A_2 c_3 r'.code ∧ RdS (intE .i64) F w A_1133 c_1134 r'.answers ∧ Reps thread_cell_E no wz r'.regs.toList cs_1136 ∧ Reps thread_cell_E no wz r'.stack.toList cs_1138 ∧ Own api_Event_E no wz 33 A_1140 c_1141 r'.out X_1143 ∧ Aft w w' [[(b_1, .cells (([.slice A_2 a0.code.length c_3, .int .i64 a0.locs, .int .i64 a0.base, .slice A_5 a0.answers.length c_6] : List Value) ++ (cs_8 ++ (([] : List Value) ++ (cs_10 ++ ([.bool a0.less, .bool a0.same, .int .u64 a0.held, .int .u64 a0.ctrl, .int .u64 a0.fenced, .int .i64 a0.hold, .int .i64 a0.event, .slice A_12 a0.out.length c_13] : List Value))))).toArray 59 (0, 0))], X_15] [[(b_1, .cells (([.slice A_2 r'.code.length c_3, .int .i64 r'.locs, .int .i64 r'.base, .slice A_1133 r'.answers.length c_1134] : List Value) ++ (cs_1136 ++ (([] : List Value) ++ (cs_1138 ++ ([.bool r'.less, .bool r'.same, .int .u64 r'.held, .int .u64 r'.ctrl, .int .u64 r'.fenced, .int .i64 r'.hold, .int .i64 r'.event, .slice A_1140 r'.out.length c_1141] : List Value))))).toArray 59 (0, 0))], X_1143] := by
  exact (thread_thread_load.calls_ _ _ _ _ _ _ _ _ _ _ _ _ _ _ _ _ hF hX q_4 q_7 q_9 q_11 q_14 H).ret (fun v w' ⟨_, hr, h⟩ => by cases hr; exact h) (fun c w' ⟨_, hr, _⟩ => by cases hr)
theorem thread_thread_load.callsP (a0 : thread_thread) (b_1 : Nat) (A_2 : Option Addr) (c_3 : Nat) (A_5 : Option Addr) (c_6 : Nat) (cs_8 : List Value) (cs_10 : List Value) (A_12 : Option Addr) (c_13 : Nat) (X_15 : Rsc) (a1 : api_Inst) (a2 : thread_cell) (p' : Int × thread_thread) (w : World) (F : Nat → Prop) (hF : ∀ k, F k → Off w [[(b_1, .cells (([.slice A_2 a0.code.length c_3, .int .i64 a0.locs, .int .i64 a0.base, .slice A_5 a0.answers.length c_6] : List Value) ++ (cs_8 ++ (([] : List Value) ++ (cs_10 ++ ([.bool a0.less, .bool a0.same, .int .u64 a0.held, .int .u64 a0.ctrl, .int .u64 a0.fenced, .int .i64 a0.hold, .int .i64 a0.event, .slice A_12 a0.out.length c_13] : List Value))))).toArray 59 (0, 0))], X_15] k) (hX : Have w [[(b_1, .cells (([.slice A_2 a0.code.length c_3, .int .i64 a0.locs, .int .i64 a0.base, .slice A_5 a0.answers.length c_6] : List Value) ++ (cs_8 ++ (([] : List Value) ++ (cs_10 ++ ([.bool a0.less, .bool a0.same, .int .u64 a0.held, .int .u64 a0.ctrl, .int .u64 a0.fenced, .int .i64 a0.hold, .int .i64 a0.event, .slice A_12 a0.out.length c_13] : List Value))))).toArray 59 (0, 0))], X_15]) (q_4 : RdS api_Inst_E F w A_2 c_3 a0.code) (q_7 : RdS (intE .i64) F w A_5 c_6 a0.answers) (q_9 : Reps thread_cell_E no wz a0.regs.toList cs_8) (q_11 : Reps thread_cell_E no wz a0.stack.toList cs_10) (q_14 : Own api_Event_E no wz 33 A_12 c_13 a0.out X_15) (H : thread_thread_load.m a0 a1 a2 = some (Sum.inl p')) :
    Pan Try.prog 37 [.pointer (some ⟨b_1, 0, none⟩), .agg #[.int .i64 a1.Op, .int .i64 a1.T, .int .i64 a1.A, .int .i64 a1.B, .int .i64 a1.Imm], .agg #[.int .i64 a2.n, .int .u64 a2.hang]] w fun c w' => ∃ (A_1145 : Option Addr) (c_1146 : Nat) (cs_1148 : List Value) (cs_1150 : List Value) (A_1152 : Option Addr) (c_1153 : Nat) (X_1155 : Rsc), c = [⟨.iface 60 (.int .i64 p'.1), false, false⟩] ∧ RdS api_Inst_E F w A_2 c_3 p'.2.code ∧ RdS (intE .i64) F w A_1145 c_1146 p'.2.answers ∧ Reps thread_cell_E no wz p'.2.regs.toList cs_1148 ∧ Reps thread_cell_E no wz p'.2.stack.toList cs_1150 ∧ Own api_Event_E no wz 33 A_1152 c_1153 p'.2.out X_1155 ∧ Aft w w' [[(b_1, .cells (([.slice A_2 a0.code.length c_3, .int .i64 a0.locs, .int .i64 a0.base, .slice A_5 a0.answers.length c_6] : List Value) ++ (cs_8 ++ (([] : List Value) ++ (cs_10 ++ ([.bool a0.less, .bool a0.same, .int .u64 a0.held, .int .u64 a0.ctrl, .int .u64 a0.fenced, .int .i64 a0.hold, .int .i64 a0.event, .slice A_12 a0.out.length c_13] : List Value))))).toArray 59 (0, 0))], X_15] [[(b_1, .cells (([.slice A_2 p'.2.code.length c_3, .int .i64 p'.2.locs, .int .i64 p'.2.base, .slice A_1145 p'.2.answers.length c_1146] : List Value) ++ (cs_1148 ++ (([] : List Value) ++ (cs_1150 ++ ([.bool p'.2.less, .bool p'.2.same, .int .u64 p'.2.held, .int .u64 p'.2.ctrl, .int .u64 p'.2.fenced, .int .i64 p'.2.hold, .int .i64 p'.2.event, .slice A_1152 p'.2.out.length c_1153] : List Value))))).toArray 59 (0, 0))], X_1155] := by
  exact (thread_thread_load.calls_ _ _ _ _ _ _ _ _ _ _ _ _ _ _ _ _ hF hX q_4 q_7 q_9 q_11 q_14 H).pan (fun v w' ⟨_, hr, _⟩ => by cases hr) (fun c w' ⟨_, hr, h⟩ => by cases hr; exact h)

end Go.Proofs.Ytcnchjlomcafeaa.W

/- Functions of the program as plain Lean functions, and that the calls do what they say: written by w2.py. -/
import Derived.Test.YtcnchjlomcafeaaRun
import Derived.Test.YtcnchjlomcafeaaTy
import Derived.Test.YtcnchjlomcafeaaG4
set_option linter.unusedVariables false
set_option linter.unusedSimpArgs false
set_option linter.unusedSectionVars false
namespace Go.Proofs.Ytcnchjlomcafeaa.W
open Go Go.RowKit Go.Proofs.Ytcnchjlomcafeaa.B
attribute [local irreducible] Go.wpList Go.Code.wp Go.Region.wanted Go.yielded
/-! ### (*selvage/selvageref16.state).memory: function 22 -/
def selvageref16_state_memory.m (a0 : selvageref16_state) (a1 : api_Inst) : Option (Int × selvageref16_state) :=
 (selvageref16_state_address.m a0 a1).bind fun r_27 => ((selvageref16_state_where.m a0 r_27.N).bind fun r_51 => (if (decide (r_51.1 = 0)) = true then (some (6, a0)) else (if 0 ≤ a1.T ∧ a1.T < (32 : Int) then (((if (decide (a1.Op = 10)) = true then (some (decide (a1.Op = 10))) else (if (decide (a1.Op = 12)) = true then (some (decide (a1.Op = 12))) else (some (decide (a1.Op = 14)))) : Option Bool).bind fun o_74 => if o_74 = true then ((if (decide (a1.Op = 14)) = true then (some (-1)) else (some a0.hold) : Option Int).bind fun o_83 => if (decide (r_51.1 = 2)) = true then (if 0 ≤ r_51.2 ∧ r_51.2 < (400 : Int) then ((selvageref16_join.m ((vg a0.stack r_51.2).Hang) r_27.Hang).bind fun r_110 => ((some (0, { a0 with regs := (vp a0.regs a1.T (⟨(vg a0.stack r_51.2).N, r_110⟩ : selvageref16_Cell)), hold := o_83 })).map Sum.inr)) else none) else (if (decide ((a0.answers.length : Int) = 0)) = true then ((some (4, { a0 with hold := o_83 })).map Sum.inr) else (if 0 ≤ (0 : Int) ∧ (0 : Int) < (a0.answers.length : Int) then ((selvageref16_mask.m r_27.Hang).bind fun r_156 => ((selvageref16_state_event.m { a0 with hold := o_83 } (⟨1, r_51.2, (gi a0.answers 0), 0, r_156, 0, 0, 0⟩ : api_Event)).bind fun r_163 => (if (!r_163.1) = true then ((some (5, r_163.2)).map Sum.inr) else (if 0 ≤ (0 : Int) ∧ (0 : Int) < (r_163.2.answers.length : Int) then (if 0 ≤ (1 : Int) ∧ (1 : Int) ≤ (r_163.2.answers.length : Int) ∧ (r_163.2.answers.length : Int) ≤ (r_163.2.answers.length : Int) then (if (decide (a1.Op = 14)) = true then (some (Sum.inl { r_163.2 with regs := (vp r_163.2.regs a1.T (⟨(gi r_163.2.answers 0), ([wrap64 ((r_163.2.events.length : Int) - 1)] : List Int)⟩ : selvageref16_Cell)), hold := r_51.2, held := (r_163.2.events.length : Int), answers := (r_163.2.answers.drop (1 : Int).toNat) })) else (some (Sum.inl { r_163.2 with regs := (vp r_163.2.regs a1.T (⟨(gi r_163.2.answers 0), ([wrap64 ((r_163.2.events.length : Int) - 1)] : List Int)⟩ : selvageref16_Cell)), answers := (r_163.2.answers.drop (1 : Int).toNat) }))) else none) else none)))) else none))) else ((if (decide (a1.Op = 11)) = true then (some (decide (a1.Op = 11))) else (some (decide (a1.Op = 13))) : Option Bool).bind fun o_240 => if o_240 = true then (if (decide (r_51.1 = 2)) = true then ((selvageref16_join.m ((vg a0.regs a1.T).Hang) r_27.Hang).bind fun r_253 => (if 0 ≤ r_51.2 ∧ r_51.2 < (400 : Int) then ((some (0, { a0 with stack := (vp a0.stack r_51.2 (⟨(vg a0.regs a1.T).N, r_253⟩ : selvageref16_Cell)) })).map Sum.inr) else none)) else ((selvageref16_mask.m r_27.Hang).bind fun r_292 => ((selvageref16_mask.m ((vg a0.regs a1.T).Hang)).bind fun r_299 => ((selvageref16_state_event.m a0 (⟨2, r_51.2, (vg a0.regs a1.T).N, 0, r_292, r_299, 0, 0⟩ : api_Event)).bind fun r_306 => (if (!r_306.1) = true then ((some (5, r_306.2)).map Sum.inr) else (some (Sum.inl r_306.2))))))) else (if (decide (a1.Op = 15)) = true then ((if ((decide (r_51.1 = 1)) && (decide (a0.hold = r_51.2))) = true then ((selvageref16_mask.m r_27.Hang).bind fun r_341 => ((selvageref16_mask.m ((vg a0.regs a1.T).Hang)).bind fun r_348 => ((selvageref16_state_event.m { a0 with cmp := (⟨1, ([] : List Int)⟩ : selvageref16_Cell) } (⟨2, r_51.2, (vg a0.regs a1.T).N, a0.held, r_341, r_348, 0, 0⟩ : api_Event)).bind fun r_355 => (if (!r_355.1) = true then (((some (5, r_355.2)).map Sum.inr).map Sum.inr) else (some (Sum.inl { r_355.2 with cmp := (⟨0, ([] : List Int)⟩ : selvageref16_Cell) })))))) else (some (Sum.inl { a0 with cmp := (⟨1, ([] : List Int)⟩ : selvageref16_Cell) })) : Option (selvageref16_state ⊕ (selvageref16_state ⊕ (Int × selvageref16_state)))).bind fun o_333 => match o_333 with | .inl s_335 => (some (Sum.inl { s_335 with hold := (-1) })) | .inr r_413 => some r_413) else (some (Sum.inl a0)))) : Option (selvageref16_state ⊕ (Int × selvageref16_state))).bind fun o_71 => match o_71 with | .inl s_73 => (some (0, s_73)) | .inr r_439 => some r_439) else none)))
set_option maxHeartbeats 4000000 in
set_option maxRecDepth 100000 in
theorem selvageref16_state_memory.calls (a0 : selvageref16_state) (b_1 : Nat) (cs_2 : List Value) (cs_4 : List Value) (A_6 : Option Addr) (c_7 : Nat) (A_9 : Option Addr) (c_10 : Nat) (A_12 : Option Addr) (c_13 : Nat) (A_15 : Option Addr) (c_16 : Nat) (X_18 : Rsc) (A_19 : Option Addr) (c_20 : Nat) (a1 : api_Inst) (r : Int × selvageref16_state) (w : World) (F : Nat → Prop) (hF : ∀ k, F k → Off w [[(b_1, .cells (([] : List Value) ++ (cs_2 ++ (([] : List Value) ++ (cs_4 ++ ([.int .i64 a0.cmp.N, .slice A_6 a0.cmp.Hang.length c_7, .slice A_9 a0.ctrl.length c_10, .slice A_12 a0.fenced.length c_13, .int .i64 a0.hold, .int .i64 a0.held, .slice A_15 a0.events.length c_16, .slice A_19 a0.answers.length c_20, .int .i64 a0.locs, .int .i64 a0.base] : List Value))))).toArray 71 (0, 0))], X_18] k) (hX : Have w [[(b_1, .cells (([] : List Value) ++ (cs_2 ++ (([] : List Value) ++ (cs_4 ++ ([.int .i64 a0.cmp.N, .slice A_6 a0.cmp.Hang.length c_7, .slice A_9 a0.ctrl.length c_10, .slice A_12 a0.fenced.length c_13, .int .i64 a0.hold, .int .i64 a0.held, .slice A_15 a0.events.length c_16, .slice A_19 a0.answers.length c_20, .int .i64 a0.locs, .int .i64 a0.base] : List Value))))).toArray 71 (0, 0))], X_18]) (q_3 : Reps selvageref16_Cell_E F w a0.regs.toList cs_2) (q_5 : Reps selvageref16_Cell_E F w a0.stack.toList cs_4) (q_8 : RdS (intE .i64) F w A_6 c_7 a0.cmp.Hang) (q_11 : RdS (intE .i64) F w A_9 c_10 a0.ctrl) (q_14 : RdS (intE .i64) F w A_12 c_13 a0.fenced) (q_17 : Own api_Event_E no wz 33 A_15 c_16 a0.events X_18) (q_21 : RdS (intE .i64) F w A_19 c_20 a0.answers) (H : selvageref16_state_memory.m a0 a1 = some r) :
 Ret Try.prog 22 [.pointer (some ⟨b_1, 0, none⟩), .agg #[.int .i64 a1.Op, .int .i64 a1.T, .int .i64 a1.A, .int .i64 a1.B, .int .i64 a1.Imm]] w fun v w' => ∃ (I_ : Nat → Prop) (cs_1440 : List Value) (cs_1442 : List Value) (A_1444 : Option Addr) (c_1445 : Nat) (A_1449 : Option Addr) (c_1450 : Nat) (X_1452 : Rsc) (A_1453 : Option Addr) (c_1454 : Nat), v = .int .i64 r.1 ∧ Reps selvageref16_Cell_E I_ w' r.2.regs.toList cs_1440 ∧ Reps selvageref16_Cell_E I_ w' r.2.stack.toList cs_1442 ∧ RdS (intE .i64) I_ w' A_1444 c_1445 r.2.cmp.Hang ∧ RdS (intE .i64) I_ w' A_9 c_10 r.2.ctrl ∧ RdS (intE .i64) I_ w' A_12 c_13 r.2.fenced ∧ Own api_Event_E no wz 33 A_1449 c_1450 r.2.events X_1452 ∧ RdS (intE .i64) I_ w' A_1453 c_1454 r.2.answers ∧ Frz F [[(b_1, .cells (([] : List Value) ++ (cs_2 ++ (([] : List Value) ++ (cs_4 ++ ([.int .i64 a0.cmp.N, .slice A_6 a0.cmp.Hang.length c_7, .slice A_9 a0.ctrl.length c_10, .slice A_12 a0.fenced.length c_13, .int .i64 a0.hold, .int .i64 a0.held, .slice A_15 a0.events.length c_16, .slice A_19 a0.answers.length c_20, .int .i64 a0.locs, .int .i64 a0.base] : List Value))))).toArray 71 (0, 0))], X_18] w I_ w' [[(b_1, .cells (([] : List Value) ++ (cs_1440 ++ (([] : List Value) ++ (cs_1442 ++ ([.int .i64 r.2.cmp.N, .slice A_1444 r.2.cmp.Hang.length c_1445, .slice A_9 r.2.ctrl.length c_10, .slice A_12 r.2.fenced.length c_13, .int .i64 r.2.hold, .int .i64 r.2.held, .slice A_1449 r.2.events.length c_1450, .slice A_1453 r.2.answers.length c_1454, .int .i64 r.2.locs, .int .i64 r.2.base] : List Value))))).toArray 71 (0, 0))], X_1452] ∧ Aft w w' [[(b_1, .cells (([] : List Value) ++ (cs_2 ++ (([] : List Value) ++ (cs_4 ++ ([.int .i64 a0.cmp.N, .slice A_6 a0.cmp.Hang.length c_7, .slice A_9 a0.ctrl.length c_10, .slice A_12 a0.fenced.length c_13, .int .i64 a0.hold, .int .i64 a0.held, .slice A_15 a0.events.length c_16, .slice A_19 a0.answers.length c_20, .int .i64 a0.locs, .int .i64 a0.base] : List Value))))).toArray 71 (0, 0))], X_18] [[(b_1, .cells (([] : List Value) ++ (cs_1440 ++ (([] : List Value) ++ (cs_1442 ++ ([.int .i64 r.2.cmp.N, .slice A_1444 r.2.cmp.Hang.length c_1445, .slice A_9 r.2.ctrl.length c_10, .slice A_12 r.2.fenced.length c_13, .int .i64 r.2.hold, .int .i64 r.2.held, .slice A_1449 r.2.events.length c_1450, .slice A_1453 r.2.answers.length c_1454, .int .i64 r.2.locs, .int .i64 r.2.base] : List Value))))).toArray 71 (0, 0))], X_1452] := by
 unfold selvageref16_state_memory.m at H
 have hp0 := Hp.startR hX hF
 have ep0 := Ep.refl F [[(b_1, .cells (([] : List Value) ++ (cs_2 ++ (([] : List Value) ++ (cs_4 ++ ([.int .i64 a0.cmp.N, .slice A_6 a0.cmp.Hang.length c_7, .slice A_9 a0.ctrl.length c_10, .slice A_12 a0.fenced.length c_13, .int .i64 a0.hold, .int .i64 a0.held, .slice A_15 a0.events.length c_16, .slice A_19 a0.answers.length c_20, .int .i64 a0.locs, .int .i64 a0.base] : List Value))))).toArray 71 (0, 0))], X_18] w
 refine enter (L := [(0, .pointer (some ⟨b_1, 0, none⟩)), (1, .agg #[.int .i64 a1.Op, .int .i64 a1.T, .int .i64 a1.A, .int .i64 a1.B, .int .i64 a1.Imm])]) Try.func22 rfl Try.ntmps22 rfl rfl ?_
 refine k_seq ?_
 refine k_region ?_
 refine s_box (l := [.int .i64 a1.Op, .int .i64 a1.T, .int .i64 a1.A, .int .i64 a1.B, .int .i64 a1.Imm]) hp0 (tm rfl rfl) rfl rfl (fun b_22 w_23 hp_24 => ?_)
 refine sv (v := .int .i64 0) rfl rfl rfl (e_assign rfl) ?_
 refine k_nil ?_
 refine k_seq ?_
 refine k_region ?_
 refine sr tb hp_24 [(0, 0, 0), (3, 2, 0)] 2 [(9, .pointer (some ⟨b_1, 0, none⟩)), (10, .agg #[.int .i64 a1.Op, .int .i64 a1.T, .int .i64 a1.A, .int .i64 a1.B, .int .i64 a1.Imm])] (by kernel_rfl) fun σ => ?_
 obtain ⟨r_27, hx_26, H⟩ := bindSome H
 refine s_call (.cons (tm rfl rfl) (.cons (tm rfl rfl) .nil)) Try.call48 (selvageref16_state_address.calls a0 b_1 cs_2 cs_4 A_6 c_7 A_9 c_10 A_12 c_13 A_15 c_16 X_18 A_19 c_20 a1 r_27 _ _ (Hp.offI hp_24 [[(b_1, .cells (([] : List Value) ++ (cs_2 ++ (([] : List Value) ++ (cs_4 ++ ([.int .i64 a0.cmp.N, .slice A_6 a0.cmp.Hang.length c_7, .slice A_9 a0.ctrl.length c_10, .slice A_12 a0.fenced.length c_13, .int .i64 a0.hold, .int .i64 a0.held, .slice A_15 a0.events.length c_16, .slice A_19 a0.answers.length c_20, .int .i64 a0.locs, .int .i64 a0.base] : List Value))))).toArray 71 (0, 0))], X_18] _ rfl) (Hp.have1 hp_24 [[(b_1, .cells (([] : List Value) ++ (cs_2 ++ (([] : List Value) ++ (cs_4 ++ ([.int .i64 a0.cmp.N, .slice A_6 a0.cmp.Hang.length c_7, .slice A_9 a0.ctrl.length c_10, .slice A_12 a0.fenced.length c_13, .int .i64 a0.hold, .int .i64 a0.held, .slice A_15 a0.events.length c_16, .slice A_19 a0.answers.length c_20, .int .i64 a0.locs, .int .i64 a0.base] : List Value))))).toArray 71 (0, 0))], X_18] _ rfl) (Reps.up q_3 (Hp.up hp_24)) (Reps.up q_5 (Hp.up hp_24)) (RdS.now q_8 hp_24) (RdS.now q_11 hp_24) (RdS.now q_14 hp_24) q_17 (RdS.now q_21 hp_24) hx_26) rfl ?_
 rintro v_ w_28 ⟨I_30, A_33, c_34, rfl, q_35, z_31, af_32⟩
 have hp_29 := Hp.callZA af_32 z_31 hp_24
 have ep_36 := Ep.callA z_31 ep0 hp_24
 have u_37 := Hp.upZ hp_24 z_31
 have q_38 := q_3.up u_37
 have q_39 := q_5.up u_37
 have q_40 := q_8.up u_37
 have q_41 := q_11.up u_37
 have q_42 := q_14.up u_37
 have q_43 := q_21.up u_37
 refine s_alloc (zv := .agg #[.int .i64 0, .slice none 0 0]) (l := [.int .i64 0, .slice none 0 0]) hp_29 (by intro w_; kernel_rfl) rfl rfl (fun b_44 w_45 hp_46 => ?_)
 refine s_store (i := 3) (j := 0) (vs := [.int .i64 r_27.N, .slice A_33 r_27.Hang.length c_34]) (l' := [.int .i64 r_27.N, .slice A_33 r_27.Hang.length c_34]) hp_46 (tm rfl rfl) (tm rfl rfl) rfl Try.sizeOf67 rfl rfl rfl rfl rfl rfl (fun w_47 hp_48 => ?_)
 refine k_nil ?_
 refine k_seq ?_
 refine k_region ?_
 refine sr tb hp_48 [(0, 0, 0), (5, 3, 0)] 3 [(13, .pointer (some ⟨b_1, 0, none⟩)), (15, .int .i64 r_27.N)] (by kernel_rfl) fun σ => ?_
 obtain ⟨r_51, hx_50, H⟩ := bindSome H
 refine s_call (.cons (tm rfl rfl) (.cons (tm rfl rfl) .nil)) Try.call49 (selvageref16_state_where.calls a0 b_1 cs_2 cs_4 A_6 c_7 A_9 c_10 A_12 c_13 A_15 c_16 X_18 A_19 c_20 r_27.N r_51 _ _ (Hp.offCov hp_48 [[(b_1, .cells (([] : List Value) ++ (cs_2 ++ (([] : List Value) ++ (cs_4 ++ ([.int .i64 a0.cmp.N, .slice A_6 a0.cmp.Hang.length c_7, .slice A_9 a0.ctrl.length c_10, .slice A_12 a0.fenced.length c_13, .int .i64 a0.hold, .int .i64 a0.held, .slice A_15 a0.events.length c_16, .slice A_19 a0.answers.length c_20, .int .i64 a0.locs, .int .i64 a0.base] : List Value))))).toArray 71 (0, 0))], X_18] [[(b_22, .cells #[.int .i64 a1.Op, .int .i64 a1.T, .int .i64 a1.A, .int .i64 a1.B, .int .i64 a1.Imm] 44 (0, 0))], [(b_44, .cells #[.int .i64 r_27.N, .slice A_33 r_27.Hang.length c_34] 67 (0, 0))]] rfl) (Hp.have1 hp_48 [[(b_1, .cells (([] : List Value) ++ (cs_2 ++ (([] : List Value) ++ (cs_4 ++ ([.int .i64 a0.cmp.N, .slice A_6 a0.cmp.Hang.length c_7, .slice A_9 a0.ctrl.length c_10, .slice A_12 a0.fenced.length c_13, .int .i64 a0.hold, .int .i64 a0.held, .slice A_15 a0.events.length c_16, .slice A_19 a0.answers.length c_20, .int .i64 a0.locs, .int .i64 a0.base] : List Value))))).toArray 71 (0, 0))], X_18] _ rfl) (Reps.up q_38 (Hp.upCov hp_48)) (Reps.up q_39 (Hp.upCov hp_48)) (RdS.pass q_40 hp_48) (RdS.pass q_41 hp_48) (RdS.pass q_42 hp_48) q_17 (RdS.pass q_43 hp_48) hx_50) rfl ?_
 rintro v_ w_52 ⟨rfl, af_55⟩
 have hp_53 := Hp.callA af_55 hp_48
 refine sv (v := .tuple #[.int .i64 r_51.1, .int .i64 r_51.2]) rfl rfl rfl (e_move (tm rfl rfl)) ?_
 refine sr tb hp_53 [] 4 [(6, .int .i64 r_51.1), (7, .int .i64 r_51.2)] (by kernel_rfl) fun σ => ?_
 refine k_nil ?_
 refine k_seq ?_
 refine kq tb hp_53 [] [(20, .bool (decide (r_51.1 = 0)))] (by kernel_rfl) fun σ => ?_
 refine k_if (tm rfl rfl) (fun h_56 => ?_) (fun h_56 => ?_)
 ·have H := ift h_56 H
  refine kq tb hp_53 [] [(4, .int .i64 6)] (by kernel_rfl) fun σ => ?_
  refine k_ret ?_
  obtain rfl := Option.some.inj H
  exact k_end rfl (.tmp rfl rfl .nil) rfl ⟨_, cs_2, cs_4, A_6, c_7, A_15, c_16, X_18, A_19, c_20, rfl, (Reps.up q_38 (Hp.up hp_53)), (Reps.up q_39 (Hp.up hp_53)), (RdS.now q_40 hp_53), (RdS.now q_41 hp_53), (RdS.now q_42 hp_53), q_17, (RdS.now q_43 hp_53), (Ep.frz ep_36 (hp_53.pick [0, 1] (by decide) rfl)), (hp_53.pick [0, 1] (by decide) rfl).aft⟩
 have H := iff_ h_56 H
 refine k_skip ?_
 refine k_seq ?_
 refine k_anyF [[0, 1, 2, 3], [0, 1, 2, 3], [0, 1, 2, 3], [0, 1, 2, 3], [0, 1, 2, 3], [0, 1, 2, 3], [0, 1, 2, 3], [0, 1, 2, 3], [0, 1, 2, 3]] [0, 0, 2, 1, 9, 31, 63, 0, 255] mixed hp_53 9 (by kernel_rfl) (fun w_57 hp_58 => ?_)
 obtain ⟨g_59, H⟩ := grd H
 obtain ⟨cs_64, rp_63, q_65⟩ := arr_elem q_38 g_59
 obtain ⟨A_60, c_61, rfl, q_62⟩ := rp_63
 refine w_takes (f := 2) tb [0, 1, 2, 3] (Wp.of hp_58 [0, 1, 2, 3] rfl) [⟨_, _, [0], fun w h => arr_at (pre := ([] : List Value)) (post := ([] : List Value) ++ (cs_4 ++ ([.int .i64 a0.cmp.N, .slice A_6 a0.cmp.Hang.length c_7, .slice A_9 a0.ctrl.length c_10, .slice A_12 a0.fenced.length c_13, .int .i64 a0.hold, .int .i64 a0.held, .slice A_15 a0.events.length c_16, .slice A_19 a0.answers.length c_20, .int .i64 a0.locs, .int .i64 a0.base] : List Value))) (h.get (i := 0) (j := 0) rfl rfl) rfl rfl q_65⟩] [.a 26 4 b_1 0 _ _ g_59] [] [(0, 0, 0), (3, 2, 0)] [] [0, 1, 3, 4, 2, 5, 6] 127 [(27, .agg #[.int .i64 ((vg a0.regs a1.T).N), .slice A_60 ((vg a0.regs a1.T).Hang).length c_61])] (fun _ => (po_then po_body)) rfl rfl (by kernel_rfl) fun σ => ?_
 refine w_one (m' := 255) 7 rfl (by kernel_rfl) (by kernel_rfl) ?_
 refine s_alloc (zv := .agg #[.int .i64 0, .slice none 0 0]) (l := [.int .i64 0, .slice none 0 0]) hp_58 (by intro w_; kernel_rfl) rfl rfl (fun b_66 w_67 hp_68 => ?_)
 refine k_nil ?_
 refine ⟨(Wp.of hp_68 [0, 1, 2, 3] rfl), ?_⟩
 refine w_one (m' := 511) 8 rfl (by kernel_rfl) (by kernel_rfl) ?_
 refine s_store (i := 4) (j := 0) (vs := [.int .i64 ((vg a0.regs a1.T).N), .slice A_60 ((vg a0.regs a1.T).Hang).length c_61]) (l' := [.int .i64 ((vg a0.regs a1.T).N), .slice A_60 ((vg a0.regs a1.T).Hang).length c_61]) hp_68 (tm rfl rfl) (tm rfl rfl) rfl Try.sizeOf67 rfl rfl rfl rfl rfl rfl (fun w_69 hp_70 => ?_)
 refine k_nil ?_
 refine ⟨(Wp.of hp_70 [0, 1, 2, 3] rfl), ?_⟩
 refine w_done (by kernel_rfl) ?_
 refine k_seq ?_
 refine kq tb hp_70 [(3, 2, 0)] [(29, .int .i64 a1.Op)] (by kernel_rfl) fun σ => ?_
 obtain ⟨o_71, H, G_72⟩ := bindSome H
 refine k_cut (fun a w' => ∃ (s_73 : selvageref16_state) (σ_440 : Nat → Value) (I_443 : Nat → Prop) (w_444 : World) (cs_447 : List Value) (cs_449 : List Value) (A_451 : Option Addr) (c_452 : Nat) (A_456 : Option Addr) (c_457 : Nat) (X_459 : Rsc) (A_460 : Option Addr) (c_461 : Nat), o_71 = Sum.inl s_73 ∧ a = st 200 [] σ_440 [] ∧ Ep F [[(b_1, .cells (([] : List Value) ++ (cs_2 ++ (([] : List Value) ++ (cs_4 ++ ([.int .i64 a0.cmp.N, .slice A_6 a0.cmp.Hang.length c_7, .slice A_9 a0.ctrl.length c_10, .slice A_12 a0.fenced.length c_13, .int .i64 a0.hold, .int .i64 a0.held, .slice A_15 a0.events.length c_16, .slice A_19 a0.answers.length c_20, .int .i64 a0.locs, .int .i64 a0.base] : List Value))))).toArray 71 (0, 0))], X_18] w I_443 w_444 ∧ Hp (On [[(b_1, .cells (([] : List Value) ++ (cs_2 ++ (([] : List Value) ++ (cs_4 ++ ([.int .i64 a0.cmp.N, .slice A_6 a0.cmp.Hang.length c_7, .slice A_9 a0.ctrl.length c_10, .slice A_12 a0.fenced.length c_13, .int .i64 a0.hold, .int .i64 a0.held, .slice A_15 a0.events.length c_16, .slice A_19 a0.answers.length c_20, .int .i64 a0.locs, .int .i64 a0.base] : List Value))))).toArray 71 (0, 0))], X_18]) I_443 w w_444 w' [[(b_1, .cells (([] : List Value) ++ (cs_447 ++ (([] : List Value) ++ (cs_449 ++ ([.int .i64 s_73.cmp.N, .slice A_451 s_73.cmp.Hang.length c_452, .slice A_9 s_73.ctrl.length c_10, .slice A_12 s_73.fenced.length c_13, .int .i64 s_73.hold, .int .i64 s_73.held, .slice A_456 s_73.events.length c_457, .slice A_460 s_73.answers.length c_461, .int .i64 s_73.locs, .int .i64 s_73.base] : List Value))))).toArray 71 (0, 0))], X_459] ∧ Reps selvageref16_Cell_E I_443 w_444 s_73.regs.toList cs_447 ∧ Reps selvageref16_Cell_E I_443 w_444 s_73.stack.toList cs_449 ∧ RdS (intE .i64) I_443 w_444 A_451 c_452 s_73.cmp.Hang ∧ RdS (intE .i64) I_443 w_444 A_9 c_10 s_73.ctrl ∧ RdS (intE .i64) I_443 w_444 A_12 c_13 s_73.fenced ∧ Own api_Event_E no wz 33 A_456 c_457 s_73.events X_459 ∧ RdS (intE .i64) I_443 w_444 A_460 c_461 s_73.answers) ?_ ?_
 ·as_aux_lemma =>
  refine k_block ?_
  refine k_seq ?_
  refine kq tb hp_70 [] [(30, .bool (decide (a1.Op = 10)))] (by kernel_rfl) fun σ => ?_
  obtain ⟨o_74, H, G_75⟩ := bindSome H
  refine k_cut (fun a w' => ∃ (σ_416 : Nat → Value), a = st 200 [(0, .pointer (some ⟨b_1, 0, none⟩)), (3, .pointer (some ⟨b_22, 0, none⟩)), (5, .pointer (some ⟨b_44, 0, none⟩)), (6, .int .i64 r_51.1), (7, .int .i64 r_51.2), (8, .pointer (some ⟨b_66, 0, none⟩)), (29, .int .i64 a1.Op), (30, .bool o_74)] σ_416 [] ∧ Hp (On [[(b_1, .cells (([] : List Value) ++ (cs_2 ++ (([] : List Value) ++ (cs_4 ++ ([.int .i64 a0.cmp.N, .slice A_6 a0.cmp.Hang.length c_7, .slice A_9 a0.ctrl.length c_10, .slice A_12 a0.fenced.length c_13, .int .i64 a0.hold, .int .i64 a0.held, .slice A_15 a0.events.length c_16, .slice A_19 a0.answers.length c_20, .int .i64 a0.locs, .int .i64 a0.base] : List Value))))).toArray 71 (0, 0))], X_18]) I_30 w w_28 w' [[(b_1, .cells (([] : List Value) ++ (cs_2 ++ (([] : List Value) ++ (cs_4 ++ ([.int .i64 a0.cmp.N, .slice A_6 a0.cmp.Hang.length c_7, .slice A_9 a0.ctrl.length c_10, .slice A_12 a0.fenced.length c_13, .int .i64 a0.hold, .int .i64 a0.held, .slice A_15 a0.events.length c_16, .slice A_19 a0.answers.length c_20, .int .i64 a0.locs, .int .i64 a0.base] : List Value))))).toArray 71 (0, 0))], X_18, [(b_22, .cells #[.int .i64 a1.Op, .int .i64 a1.T, .int .i64 a1.A, .int .i64 a1.B, .int .i64 a1.Imm] 44 (0, 0))], [(b_44, .cells #[.int .i64 r_27.N, .slice A_33 r_27.Hang.length c_34] 67 (0, 0))], [(b_66, .cells #[.int .i64 ((vg a0.regs a1.T).N), .slice A_60 ((vg a0.regs a1.T).Hang).length c_61] 67 (0, 0))]]) ?_ ?_
  ·refine k_if (tm rfl rfl) (fun h_76 => ?_) (fun h_76 => ?_)
   ·have H := ift h_76 H
    refine k_skip ?_
    obtain rfl := Option.some.inj H
    exact ⟨_, seenF ⟨rfl, rfl, rfl, rfl, rfl, rfl, rfl, rfl, trivial⟩, hp_70⟩
   have H := iff_ h_76 H
   refine kq tb hp_70 [] [(30, .bool (decide (a1.Op = 12)))] (by kernel_rfl) fun σ => ?_
   refine k_if (tm rfl rfl) (fun h_77 => ?_) (fun h_77 => ?_)
   ·have H := ift h_77 H
    refine k_skip ?_
    obtain rfl := Option.some.inj H
    exact ⟨_, seenF ⟨rfl, rfl, rfl, rfl, rfl, rfl, rfl, rfl, trivial⟩, hp_70⟩
   have H := iff_ h_77 H
   refine kr tb hp_70 [] [(30, .bool (decide (a1.Op = 14)))] (by kernel_rfl) fun σ => ?_
   obtain rfl := Option.some.inj H
   exact ⟨_, seenF ⟨rfl, rfl, rfl, rfl, rfl, rfl, rfl, rfl, trivial⟩, hp_70⟩
  clear H
  rintro a w' ⟨σ_78, rfl, hp_79⟩
  have H := G_75
  refine k_if (tm rfl rfl) (fun h_82 => ?_) (fun h_82 => ?_)
  ·as_aux_lemma =>
   have H := ift h_82 H
   refine k_seq ?_
   refine kq tb hp_79 [(3, 2, 0)] [(36, .bool (decide (a1.Op = 14)))] (by kernel_rfl) fun σ => ?_
   obtain ⟨o_83, H, G_84⟩ := bindSome H
   refine k_cut (fun a w' => ∃ (σ_240 : Nat → Value), a = st 200 [(0, .pointer (some ⟨b_1, 0, none⟩)), (3, .pointer (some ⟨b_22, 0, none⟩)), (5, .pointer (some ⟨b_44, 0, none⟩)), (6, .int .i64 r_51.1), (7, .int .i64 r_51.2)] σ_240 [] ∧ Hp (On [[(b_1, .cells (([] : List Value) ++ (cs_2 ++ (([] : List Value) ++ (cs_4 ++ ([.int .i64 a0.cmp.N, .slice A_6 a0.cmp.Hang.length c_7, .slice A_9 a0.ctrl.length c_10, .slice A_12 a0.fenced.length c_13, .int .i64 a0.hold, .int .i64 a0.held, .slice A_15 a0.events.length c_16, .slice A_19 a0.answers.length c_20, .int .i64 a0.locs, .int .i64 a0.base] : List Value))))).toArray 71 (0, 0))], X_18]) I_30 w w_28 w' [[(b_1, .cells (([] : List Value) ++ (cs_2 ++ (([] : List Value) ++ (cs_4 ++ ([.int .i64 a0.cmp.N, .slice A_6 a0.cmp.Hang.length c_7, .slice A_9 a0.ctrl.length c_10, .slice A_12 a0.fenced.length c_13, .int .i64 o_83, .int .i64 a0.held, .slice A_15 a0.events.length c_16, .slice A_19 a0.answers.length c_20, .int .i64 a0.locs, .int .i64 a0.base] : List Value))))).toArray 71 (0, 0))], X_18, [(b_22, .cells #[.int .i64 a1.Op, .int .i64 a1.T, .int .i64 a1.A, .int .i64 a1.B, .int .i64 a1.Imm] 44 (0, 0))], [(b_44, .cells #[.int .i64 r_27.N, .slice A_33 r_27.Hang.length c_34] 67 (0, 0))]]) ?_ ?_
   ·refine k_if (tm rfl rfl) (fun h_85 => ?_) (fun h_85 => ?_)
    ·have H := ift h_85 H
     refine k_region ?_
     refine sr tb hp_79 [(0, 0, 0)] 3 [(39, .pointer (some ⟨b_1, 868, none⟩))] (by kernel_rfl) fun σ => ?_
     refine s_store (i := 0) (j := 0) (vs := [.int .i64 (-1)]) (l' := (([] : List Value) ++ (cs_2 ++ (([] : List Value) ++ (cs_4 ++ ([.int .i64 a0.cmp.N, .slice A_6 a0.cmp.Hang.length c_7, .slice A_9 a0.ctrl.length c_10, .slice A_12 a0.fenced.length c_13, .int .i64 (-1), .int .i64 a0.held, .slice A_15 a0.events.length c_16, .slice A_19 a0.answers.length c_20, .int .i64 a0.locs, .int .i64 a0.base] : List Value)))))) hp_79 (tm rfl rfl) rfl rfl Try.sizeOf3 rfl rfl rfl rfl (ble_len (lenA rfl (lenA (arr_len q_38 rfl) (lenA rfl (lenA (arr_len q_39 rfl) rfl)))) rfl) (segu 0 868 rfl (segu 64 804 (arr_len q_38 rfl) (segu 0 804 rfl (segu 800 4 (arr_len q_39 rfl) rfl)))) (fun w_86 hp_87 => ?_)
     refine k_nil ?_
     obtain rfl := Option.some.inj H
     exact ⟨_, seenF ⟨rfl, rfl, rfl, rfl, rfl, trivial⟩, hp_87.pick [0, 1, 2, 3] (by decide) rfl⟩
    have H := iff_ h_85 H
    refine k_skip ?_
    obtain rfl := Option.some.inj H
    exact ⟨_, seenF ⟨rfl, rfl, rfl, rfl, rfl, trivial⟩, hp_79.pick [0, 1, 2, 3] (by decide) rfl⟩
   clear H
   rintro a w' ⟨σ_88, rfl, hp_89⟩
   have H := G_84
   refine k_seq ?_
   refine kq tb hp_89 [] [(41, .bool (decide (r_51.1 = 2)))] (by kernel_rfl) fun σ => ?_
   refine k_if (tm rfl rfl) (fun h_92 => ?_) (fun h_92 => ?_)
   ·as_aux_lemma =>
    have H := ift h_92 H
    refine k_seq ?_
    refine k_anyF [[0, 1, 2, 3], [0, 1, 2, 3], [0, 1, 2, 3], [0, 1, 2, 3], [0, 1, 2, 3], [0, 1, 2, 3], [0, 1, 2, 3], [0, 1, 2, 3], [0, 1, 2, 3], [0, 1, 2, 3], [0, 1, 2, 3], [0, 1, 2, 3], [0, 1, 2, 3], [0, 1, 2, 3], [0, 1, 2, 3], [0, 1, 2, 3], [0, 1, 2, 3], [0, 1, 2, 3], [0, 1, 2, 3], [0, 1, 2, 3], [0, 1, 2, 3], [0, 1, 2, 3], [0, 1, 2, 3], [0, 1, 2, 3], [1, 2, 3]] [0, 0, 2, 0, 0, 8, 40, 120, 248, 504, 0, 0, 1024, 5120, 15360, 31744, 64512, 0, 131072, 523264, 1048568, 1, 2097153, 8388607, 16777215] mixed hp_89 25 (by kernel_rfl) (fun w_93 hp_94 => ?_)
    obtain ⟨g_95, H⟩ := grd H
    obtain ⟨cs_100, rp_99, q_101⟩ := arr_elem q_39 g_95
    obtain ⟨A_96, c_97, rfl, q_98⟩ := rp_99
    obtain ⟨cs_106, rp_105, q_107⟩ := arr_elem q_39 g_95
    obtain ⟨A_102, c_103, rfl, q_104⟩ := rp_105
    refine w_takes (f := 4) tb [0, 1, 2, 3] (Wp.of hp_94 [0, 1, 2, 3] rfl) [⟨_, _, [0], fun w h => arr_at (pre := (([] : List Value) ++ (cs_2 ++ ([] : List Value)))) (post := ([.int .i64 a0.cmp.N, .slice A_6 a0.cmp.Hang.length c_7, .slice A_9 a0.ctrl.length c_10, .slice A_12 a0.fenced.length c_13, .int .i64 o_83, .int .i64 a0.held, .slice A_15 a0.events.length c_16, .slice A_19 a0.answers.length c_20, .int .i64 a0.locs, .int .i64 a0.base] : List Value)) (h.get (i := 0) (j := 0) rfl rfl) (by simp only [List.append_assoc]) (lenA rfl (lenA (arr_len q_38 rfl) rfl)) q_101⟩, ⟨_, _, [0], fun w h => arr_at (pre := (([] : List Value) ++ (cs_2 ++ ([] : List Value)))) (post := ([.int .i64 a0.cmp.N, .slice A_6 a0.cmp.Hang.length c_7, .slice A_9 a0.ctrl.length c_10, .slice A_12 a0.fenced.length c_13, .int .i64 o_83, .int .i64 a0.held, .slice A_15 a0.events.length c_16, .slice A_19 a0.answers.length c_20, .int .i64 a0.locs, .int .i64 a0.base] : List Value)) (h.get (i := 0) (j := 0) rfl rfl) (by simp only [List.append_assoc]) (lenA rfl (lenA (arr_len q_38 rfl) rfl)) q_107⟩] [.a 49 4 b_1 64 _ _ g_95, .a 56 5 b_1 64 _ _ g_95] [] [(0, 0, 0), (3, 2, 0), (5, 3, 0)] [] [0, 1, 3, 4, 5, 6, 7, 8, 10, 11, 12, 13, 14, 15, 17, 21, 22, 2, 9, 16, 18] 6815743 [(64, .pointer (some ⟨b_1, 0, none⟩)), (44, .int .i64 a1.T), (51, .int .i64 ((vg a0.stack r_51.2).N)), (58, .slice A_102 ((vg a0.stack r_51.2).Hang).length c_103), (60, .slice A_33 r_27.Hang.length c_34)] (fun _ => (po_then (po_x po_body))) rfl rfl (by kernel_rfl) fun σ => ?_
    refine w_one (m' := 7340031) 19 rfl (by kernel_rfl) (by kernel_rfl) ?_
    obtain ⟨r_110, hx_109, H⟩ := bindSome H
    refine s_call (.cons (tm rfl rfl) (.cons (tm rfl rfl) .nil)) Try.call25 (selvageref16_join.calls ((vg a0.stack r_51.2).Hang) A_102 c_103 r_27.Hang A_33 c_34 r_110 _ _ (Hp.offCov hp_94 [] [[(b_1, .cells (([] : List Value) ++ (cs_2 ++ (([] : List Value) ++ (cs_4 ++ ([.int .i64 a0.cmp.N, .slice A_6 a0.cmp.Hang.length c_7, .slice A_9 a0.ctrl.length c_10, .slice A_12 a0.fenced.length c_13, .int .i64 o_83, .int .i64 a0.held, .slice A_15 a0.events.length c_16, .slice A_19 a0.answers.length c_20, .int .i64 a0.locs, .int .i64 a0.base] : List Value))))).toArray 71 (0, 0))], X_18, [(b_22, .cells #[.int .i64 a1.Op, .int .i64 a1.T, .int .i64 a1.A, .int .i64 a1.B, .int .i64 a1.Imm] 44 (0, 0))], [(b_44, .cells #[.int .i64 r_27.N, .slice A_33 r_27.Hang.length c_34] 67 (0, 0))]] rfl) (RdS.pass q_104 hp_94) (RdS.pass q_35 hp_94) hx_109) rfl ?_
    rintro v_ w_111 ⟨A_115, c_116, X_118, rfl, q_117, af_114⟩
    have hp_112 := Hp.callA af_114 hp_94
    refine k_nil ?_
    refine ⟨(Wp.of hp_112 [1, 2, 3, 4] rfl), ?_⟩
    obtain ⟨cs_123, rp_122, q_124⟩ := arr_elem q_38 g_59
    obtain ⟨A_119, c_120, rfl, q_121⟩ := rp_122
    refine w_takes (f := 1) tb [0, 1, 2, 3] (Wp.of hp_112 [1, 2, 3, 4] rfl) [⟨_, _, [0], fun w h => arr_at (pre := ([] : List Value)) (post := ([] : List Value) ++ (cs_4 ++ ([.int .i64 a0.cmp.N, .slice A_6 a0.cmp.Hang.length c_7, .slice A_9 a0.ctrl.length c_10, .slice A_12 a0.fenced.length c_13, .int .i64 o_83, .int .i64 a0.held, .slice A_15 a0.events.length c_16, .slice A_19 a0.answers.length c_20, .int .i64 a0.locs, .int .i64 a0.base] : List Value))) (h.get (i := 0) (j := 0) rfl rfl) rfl rfl q_124⟩] [.a 65 4 b_1 0 _ _ g_59] [] [(64, 0, 0)] [] [20, 23] 16777215 [(62, .agg #[.int .i64 ((vg a0.stack r_51.2).N), .slice A_115 r_110.length c_116]), (65, .pointer (some ⟨b_1, 0 + (a1.T : Int).toNat * 2, none⟩))] (fun _ => (po_then (po_x po_body))) rfl rfl (by kernel_rfl) fun σ => ?_
    refine w_one (m' := 33554431) 24 rfl (by kernel_rfl) (by kernel_rfl) ?_
    have hp_125 := Hp.pick (R' := [X_118, [(b_1, .cells (([] : List Value) ++ (cs_2 ++ (([] : List Value) ++ (cs_4 ++ ([.int .i64 a0.cmp.N, .slice A_6 a0.cmp.Hang.length c_7, .slice A_9 a0.ctrl.length c_10, .slice A_12 a0.fenced.length c_13, .int .i64 o_83, .int .i64 a0.held, .slice A_15 a0.events.length c_16, .slice A_19 a0.answers.length c_20, .int .i64 a0.locs, .int .i64 a0.base] : List Value))))).toArray 71 (0, 0))], X_18, [(b_22, .cells #[.int .i64 a1.Op, .int .i64 a1.T, .int .i64 a1.A, .int .i64 a1.B, .int .i64 a1.Imm] 44 (0, 0))], [(b_44, .cells #[.int .i64 r_27.N, .slice A_33 r_27.Hang.length c_34] 67 (0, 0))]]) [0, 1, 2, 3, 4] hp_112 (by decide) rfl
    have q_129 := (Own.any q_117).froze hp_125
    have ep_128 := ep_36.freeze hp_125
    have u_127 := hp_125.frozenUp
    have hp_126 := hp_125.freeze
    have q_131 := q_98.up u_127
    have q_132 := q_104.up u_127
    have q_133 := q_35.up u_127
    have q_134 := q_121.up u_127
    have q_135 := q_38.up u_127
    have q_136 := q_39.up u_127
    have q_137 := q_40.up u_127
    have q_138 := q_41.up u_127
    have q_139 := q_42.up u_127
    have q_140 := q_43.up u_127
    refine s_storeA (E := selvageref16_Cell_E) (i := a1.T) (inn := 0) (r := 0) (el := (⟨(vg a0.stack r_51.2).N, r_110⟩ : selvageref16_Cell)) (vs := [.int .i64 ((vg a0.stack r_51.2).N), .slice A_115 r_110.length c_116]) (pre := ([] : List Value)) (post := ([] : List Value) ++ (cs_4 ++ ([.int .i64 a0.cmp.N, .slice A_6 a0.cmp.Hang.length c_7, .slice A_9 a0.ctrl.length c_10, .slice A_12 a0.fenced.length c_13, .int .i64 o_83, .int .i64 a0.held, .slice A_15 a0.events.length c_16, .slice A_19 a0.answers.length c_20, .int .i64 a0.locs, .int .i64 a0.base] : List Value))) (fun q_ => (([] : List Value) ++ (q_ ++ (([] : List Value) ++ (cs_4 ++ ([.int .i64 a0.cmp.N, .slice A_6 a0.cmp.Hang.length c_7, .slice A_9 a0.ctrl.length c_10, .slice A_12 a0.fenced.length c_13, .int .i64 o_83, .int .i64 a0.held, .slice A_15 a0.events.length c_16, .slice A_19 a0.answers.length c_20, .int .i64 a0.locs, .int .i64 a0.base] : List Value)))))) hp_126 (tm rfl rfl) (tm rfl rfl) rfl Try.sizeOf67 rfl rfl rfl rfl (fun _ => rfl) rfl q_135 g_59 rfl q_124 ⟨A_115, c_116, rfl, q_129⟩ (fun w_141 cs_143 hp_142 q_144 => ?_)
    refine k_nil ?_
    refine ⟨(Wp.down u_127 (Wp.of hp_142 [1, 2, 3] rfl)), ?_⟩
    refine w_done (by kernel_rfl) ?_
    refine kq tb hp_142 [] [(4, .int .i64 0)] (by kernel_rfl) fun σ => ?_
    refine k_ret ?_
    refine q_ret ?_
    obtain ⟨v_, H', hv_⟩ := mapSome H
    subst hv_
    have H := H'.trans (show some v_ = _ from G_72)
    obtain rfl := Option.some.inj H
    exact k_end rfl (.tmp rfl rfl .nil) rfl ⟨_, cs_143, cs_4, A_6, c_7, A_15, c_16, X_18, A_19, c_20, rfl, (Reps.up q_144 (Hp.up hp_142)), (Reps.up q_136 (Hp.up hp_142)), (RdS.now q_137 hp_142), (RdS.now q_138 hp_142), (RdS.now q_139 hp_142), q_17, (RdS.now q_140 hp_142), (Ep.frz ep_128 (hp_142.pick [0, 1] (by decide) rfl)), (hp_142.pick [0, 1] (by decide) rfl).aft⟩
   have H := iff_ h_92 H
   refine k_skip ?_
   refine k_seq ?_
   refine kqx tb hp_89 [] [] [⟨0, 864, _, _, cells_box (sz := 10) (hp_89.get (i := 0) (j := 0) rfl rfl) (segs 0 864 10 rfl (segs 64 800 10 (arr_len q_38 rfl) (segs 0 800 10 rfl (segs 800 0 10 (arr_len q_39 rfl) rfl))))⟩] [(0, 0, 0)] [] [(71, .bool (decide ((a0.answers.length : Int) = 0)))] (by kernel_rfl) fun σ => ?_
   refine k_if (tm rfl rfl) (fun h_145 => ?_) (fun h_145 => ?_)
   ·have H := ift h_145 H
    refine kq tb hp_89 [] [(4, .int .i64 4)] (by kernel_rfl) fun σ => ?_
    refine k_ret ?_
    refine q_ret ?_
    obtain ⟨v_, H', hv_⟩ := mapSome H
    subst hv_
    have H := H'.trans (show some v_ = _ from G_72)
    obtain rfl := Option.some.inj H
    exact k_end rfl (.tmp rfl rfl .nil) rfl ⟨_, cs_2, cs_4, A_6, c_7, A_15, c_16, X_18, A_19, c_20, rfl, (Reps.up q_38 (Hp.up hp_89)), (Reps.up q_39 (Hp.up hp_89)), (RdS.now q_40 hp_89), (RdS.now q_41 hp_89), (RdS.now q_42 hp_89), q_17, (RdS.now q_43 hp_89), (Ep.frz ep_36 (hp_89.pick [0, 1] (by decide) rfl)), (hp_89.pick [0, 1] (by decide) rfl).aft⟩
   have H := iff_ h_145 H
   refine k_skip ?_
   refine k_seq ?_
   refine k_seq ?_
   refine k_anyF [[0, 1, 2, 3], [0, 1, 2, 3], [0, 1, 2, 3], [0, 1, 2, 3], [0, 1, 2, 3], [0, 1, 2, 3], [0, 1, 2, 3], [0, 1, 2, 3], [0, 1, 2, 3], [0, 1, 2, 3], [0, 1, 2, 3], [0, 1, 2, 3], [2, 3], [2, 3]] [0, 0, 0, 4, 12, 28, 60, 124, 0, 256, 768, 2046, 4095, 8191] mixed hp_89 14 (by kernel_rfl) (fun w_146 hp_147 => ?_)
   obtain ⟨g_148, H⟩ := grd H
   obtain ⟨a_153, cs_150, pl_151, q_152, rp_149⟩ := rd_idx q_43 g_148
   obtain rfl : cs_150 = [.int .i64 (gi a0.answers 0)] := rp_149
   refine w_takes (f := 4) tb [0, 1, 2, 3] (Wp.of hp_147 [0, 1, 2, 3] rfl) [⟨_, _, [], fun w h => h.ep q_152⟩] [.s 78 4 _ _ c_20 _ 1 _ pl_151 g_148] [⟨0, 864, _, _, [0], fun w h => cells_box (sz := 10) (h.get (i := 0) (j := 0) rfl rfl) (segs 0 864 10 rfl (segs 64 800 10 (arr_len q_38 rfl) (segs 0 800 10 rfl (segs 800 0 10 (arr_len q_39 rfl) rfl))))⟩] [(0, 0, 0), (5, 3, 0)] [] [0, 1, 2, 3, 4, 8, 5, 6, 7, 9] 1023 [(72, .pointer (some ⟨b_1, 0, none⟩)), (73, .int .i64 r_51.2), (79, .int .i64 (gi a0.answers 0)), (81, .slice A_33 r_27.Hang.length c_34)] (fun _ => (po_then (po_x po_body))) rfl rfl (by kernel_rfl) fun σ => ?_
   refine w_one (m' := 2047) 10 rfl (by kernel_rfl) (by kernel_rfl) ?_
   obtain ⟨r_156, hx_155, H⟩ := bindSome H
   refine s_call (.cons (tm rfl rfl) .nil) Try.call50 (selvageref16_mask.calls r_27.Hang A_33 c_34 r_156 _ _ (Hp.offCov hp_147 [] [[(b_1, .cells (([] : List Value) ++ (cs_2 ++ (([] : List Value) ++ (cs_4 ++ ([.int .i64 a0.cmp.N, .slice A_6 a0.cmp.Hang.length c_7, .slice A_9 a0.ctrl.length c_10, .slice A_12 a0.fenced.length c_13, .int .i64 o_83, .int .i64 a0.held, .slice A_15 a0.events.length c_16, .slice A_19 a0.answers.length c_20, .int .i64 a0.locs, .int .i64 a0.base] : List Value))))).toArray 71 (0, 0))], X_18, [(b_22, .cells #[.int .i64 a1.Op, .int .i64 a1.T, .int .i64 a1.A, .int .i64 a1.B, .int .i64 a1.Imm] 44 (0, 0))], [(b_44, .cells #[.int .i64 r_27.N, .slice A_33 r_27.Hang.length c_34] 67 (0, 0))]] rfl) (RdS.pass q_35 hp_147) hx_155) rfl ?_
   rintro v_ w_157 ⟨rfl, af_160⟩
   have hp_158 := Hp.callA af_160 hp_147
   refine k_nil ?_
   refine ⟨(Wp.of hp_158 [0, 1, 2, 3] rfl), ?_⟩
   refine w_take (m' := 4095) (v := .agg #[.int .i64 1, .int .i64 r_51.2, .int .i64 (gi a0.answers 0), .int .i64 0, .int .u64 r_156, .int .u64 0, .int .u64 0, .int .u64 0]) 11 rfl rfl (by kernel_rfl) (by kernel_rfl) (by kernel_rfl) (by kernel_rfl) (by kernel_rfl) (by kernel_rfl) (by kernel_rfl) (po_then (po_x po_body)) (Wp.of hp_158 [0, 1, 2, 3] rfl) (y_val (fun w_ hW_ => e_build (vs := [(0, .int .i64 1), (1, .int .i64 r_51.2), (2, .int .i64 (gi a0.answers 0)), (4, .int .u64 r_156)]) (cs := [.int .i64 1, .int .i64 r_51.2, .int .i64 (gi a0.answers 0), .int .i64 0, .int .u64 r_156, .int .u64 0, .int .u64 0, .int .u64 0]) (.cons rfl (.cons (tm rfl rfl) (.cons (tm rfl rfl) (.cons (tm rfl rfl) .nil)))) (by kernel_rfl))) ?_
   refine w_one (m' := 8191) 12 rfl (by kernel_rfl) (by kernel_rfl) ?_
   obtain ⟨r_163, hx_162, H⟩ := bindSome H
   refine s_call (.cons (tm rfl rfl) (.cons (tm rfl rfl) .nil)) Try.call24 (selvageref16_state_event.calls { a0 with hold := o_83 } b_1 cs_2 cs_4 A_6 c_7 A_9 c_10 A_12 c_13 A_15 c_16 X_18 A_19 c_20 (⟨1, r_51.2, (gi a0.answers 0), 0, r_156, 0, 0, 0⟩ : api_Event) r_163 _ _ (Hp.offI hp_158 [[(b_1, .cells (([] : List Value) ++ (cs_2 ++ (([] : List Value) ++ (cs_4 ++ ([.int .i64 a0.cmp.N, .slice A_6 a0.cmp.Hang.length c_7, .slice A_9 a0.ctrl.length c_10, .slice A_12 a0.fenced.length c_13, .int .i64 o_83, .int .i64 a0.held, .slice A_15 a0.events.length c_16, .slice A_19 a0.answers.length c_20, .int .i64 a0.locs, .int .i64 a0.base] : List Value))))).toArray 71 (0, 0))], X_18] _ rfl) (Hp.have1 hp_158 [[(b_1, .cells (([] : List Value) ++ (cs_2 ++ (([] : List Value) ++ (cs_4 ++ ([.int .i64 a0.cmp.N, .slice A_6 a0.cmp.Hang.length c_7, .slice A_9 a0.ctrl.length c_10, .slice A_12 a0.fenced.length c_13, .int .i64 o_83, .int .i64 a0.held, .slice A_15 a0.events.length c_16, .slice A_19 a0.answers.length c_20, .int .i64 a0.locs, .int .i64 a0.base] : List Value))))).toArray 71 (0, 0))], X_18] _ rfl) (Reps.up q_38 (Hp.up hp_158)) (Reps.up q_39 (Hp.up hp_158)) (RdS.now q_40 hp_158) (RdS.now q_41 hp_158) (RdS.now q_42 hp_158) q_17 (RdS.now q_43 hp_158) hx_162) rfl ?_
   rintro v_ w_164 ⟨cs_168, cs_170, A_175, c_176, X_178, rfl, q_169, q_171, q_172, q_173, q_174, q_177, q_179, af_167⟩
   have hp_165 := Hp.callA af_167 hp_158
   have q_180 := q_169.up (Hp.down hp_158)
   have q_181 := q_171.up (Hp.down hp_158)
   have q_182 := q_172.up (Hp.down hp_158)
   have q_183 := q_173.up (Hp.down hp_158)
   have q_184 := q_174.up (Hp.down hp_158)
   have q_185 := q_179.up (Hp.down hp_158)
   refine k_nil ?_
   refine ⟨(Wp.of hp_165 [2, 3] rfl), ?_⟩
   refine w_take (m' := 16383) (v := .bool (!r_163.1)) 13 rfl rfl (by kernel_rfl) (by kernel_rfl) (by kernel_rfl) (by kernel_rfl) (by kernel_rfl) (by kernel_rfl) (by kernel_rfl) (po_then (po_x po_body)) (Wp.of hp_165 [2, 3] rfl) (y_val (fun w_ hW_ => e_un (tm rfl rfl) (r_not rfl))) ?_
   refine w_done (by kernel_rfl) ?_
   refine k_if (tm rfl rfl) (fun h_186 => ?_) (fun h_186 => ?_)
   ·have H := ift h_186 H
    refine kq tb hp_165 [] [(4, .int .i64 5)] (by kernel_rfl) fun σ => ?_
    refine k_ret ?_
    refine q_ret ?_
    obtain ⟨v_, H', hv_⟩ := mapSome H
    subst hv_
    have H := H'.trans (show some v_ = _ from G_72)
    obtain rfl := Option.some.inj H
    exact k_end rfl (.tmp rfl rfl .nil) rfl ⟨_, cs_168, cs_170, A_6, c_7, A_175, c_176, X_178, A_19, c_20, rfl, (Reps.up q_180 (Hp.up hp_165)), (Reps.up q_181 (Hp.up hp_165)), (RdS.now q_182 hp_165), (RdS.now q_183 hp_165), (RdS.now q_184 hp_165), q_177, (RdS.now q_185 hp_165), (Ep.frz ep_36 (hp_165.pick [0, 1] (by decide) rfl)), (hp_165.pick [0, 1] (by decide) rfl).aft⟩
   have H := iff_ h_186 H
   refine k_skip ?_
   refine k_seq ?_
   refine k_anyF [[0, 1, 2, 3], [0, 1, 2, 3], [0, 1, 2, 3], [0, 1, 2, 3], [0, 1, 2, 3], [0, 1, 2, 3], [0, 1, 2, 3], [0, 1, 2, 3], [0, 1, 2, 3], [0, 1, 2, 3], [0, 1, 2, 3], [0, 1, 2, 3], [0, 1, 2, 3], [0, 1, 2, 3], [0, 1, 2, 3], [0, 1, 2, 3], [0, 1, 2, 3], [0, 1, 2, 3], [0, 1, 2, 3], [0, 1, 2, 3], [1, 2, 3]] [0, 0, 2, 0, 8, 24, 56, 120, 248, 0, 512, 1536, 3584, 7680, 15872, 32256, 65528, 1, 131073, 524287, 1048575] mixed hp_165 21 (by kernel_rfl) (fun w_187 hp_188 => ?_)
   obtain ⟨g_189, H⟩ := grd H
   obtain ⟨a_194, cs_191, pl_192, q_193, rp_190⟩ := rd_idx q_185 g_189
   obtain rfl : cs_191 = [.int .i64 (gi r_163.2.answers 0)] := rp_190
   refine w_takes (f := 4) tb [0, 1, 2, 3] (Wp.of hp_188 [0, 1, 2, 3] rfl) [⟨_, _, [], fun w h => h.ep q_193⟩] [.s 93 4 _ _ c_20 _ 1 _ pl_192 g_189] [⟨0, 864, _, _, [0], fun w h => cells_box (sz := 10) (h.get (i := 0) (j := 0) rfl rfl) (segs 0 864 10 rfl (segs 64 800 10 (arr_len q_180 rfl) (segs 0 800 10 rfl (segs 800 0 10 (arr_len q_181 rfl) rfl))))⟩] [(0, 0, 0), (3, 2, 0)] [] [0, 1, 3, 4, 5, 9, 10, 11, 17, 18, 2, 6, 7, 8, 12, 13, 14] 425983 [(104, .pointer (some ⟨b_1, 0, none⟩)), (88, .int .i64 a1.T), (94, .int .i64 (gi r_163.2.answers 0)), (100, .int .i64 (wrap64 ((r_163.2.events.length : Int) - 1)))] (fun _ => (po_then (po_x po_body))) rfl rfl (by kernel_rfl) fun σ => ?_
   refine w_one (m' := 458751) 15 rfl (by kernel_rfl) (by kernel_rfl) ?_
   refine s_buildC (zv := .int .i64 0) (E := (intE .i64)) (F := no) (wf := wz) (xs := ([wrap64 ((r_163.2.events.length : Int) - 1)] : List Int)) (cs := [.int .i64 (wrap64 ((r_163.2.events.length : Int) - 1))]) (vs := [(0, .int .i64 (wrap64 ((r_163.2.events.length : Int) - 1)))]) hp_188 (.cons (tm rfl rfl) .nil) Try.runUnderlying65 Try.sizeOf3 (by intro w_; kernel_rfl) rfl rfl rfl (Reps.cat.2 rfl) rfl rfl rfl rfl (fun A_195 c_196 w_197 X_198 hp_199 O_200 => ?_)
   refine k_nil ?_
   refine ⟨(Wp.of hp_199 [0, 1, 2, 3] rfl), ?_⟩
   obtain ⟨cs_205, rp_204, q_206⟩ := arr_elem q_180 g_59
   obtain ⟨A_201, c_202, rfl, q_203⟩ := rp_204
   refine w_takes (f := 1) tb [0, 1, 2, 3] (Wp.of hp_199 [0, 1, 2, 3] rfl) [⟨_, _, [0], fun w h => arr_at (pre := ([] : List Value)) (post := ([] : List Value) ++ (cs_170 ++ ([.int .i64 r_163.2.cmp.N, .slice A_6 r_163.2.cmp.Hang.length c_7, .slice A_9 r_163.2.ctrl.length c_10, .slice A_12 r_163.2.fenced.length c_13, .int .i64 r_163.2.hold, .int .i64 r_163.2.held, .slice A_175 r_163.2.events.length c_176, .slice A_19 r_163.2.answers.length c_20, .int .i64 r_163.2.locs, .int .i64 r_163.2.base] : List Value))) (h.get (i := 0) (j := 0) rfl rfl) rfl rfl q_206⟩] [.a 105 4 b_1 0 _ _ g_59] [] [(104, 0, 0)] [] [16, 19] 1048575 [(102, .agg #[.int .i64 (gi r_163.2.answers 0), .slice A_195 ([wrap64 ((r_163.2.events.length : Int) - 1)] : List Int).length c_196]), (105, .pointer (some ⟨b_1, 0 + (a1.T : Int).toNat * 2, none⟩))] (fun _ => (po_then (po_x po_body))) rfl rfl (by kernel_rfl) fun σ => ?_
   refine w_one (m' := 2097151) 20 rfl (by kernel_rfl) (by kernel_rfl) ?_
   have hp_207 := Hp.pick (R' := [X_198, [(b_1, .cells (([] : List Value) ++ (cs_168 ++ (([] : List Value) ++ (cs_170 ++ ([.int .i64 r_163.2.cmp.N, .slice A_6 r_163.2.cmp.Hang.length c_7, .slice A_9 r_163.2.ctrl.length c_10, .slice A_12 r_163.2.fenced.length c_13, .int .i64 r_163.2.hold, .int .i64 r_163.2.held, .slice A_175 r_163.2.events.length c_176, .slice A_19 r_163.2.answers.length c_20, .int .i64 r_163.2.locs, .int .i64 r_163.2.base] : List Value))))).toArray 71 (0, 0))], X_178, [(b_22, .cells #[.int .i64 a1.Op, .int .i64 a1.T, .int .i64 a1.A, .int .i64 a1.B, .int .i64 a1.Imm] 44 (0, 0))], [(b_44, .cells #[.int .i64 r_27.N, .slice A_33 r_27.Hang.length c_34] 67 (0, 0))]]) [4, 0, 1, 2, 3] hp_199 (by decide) rfl
   have q_211 := (Own.any O_200).froze hp_207
   have ep_210 := ep_36.freeze hp_207
   have u_209 := hp_207.frozenUp
   have hp_208 := hp_207.freeze
   have q_213 := q_43.up u_209
   have q_214 := q_152.up u_209
   have q_215 := q_35.up u_209
   have q_216 := q_185.up u_209
   have q_217 := q_193.up u_209
   have q_218 := q_203.up u_209
   have q_219 := q_180.up u_209
   have q_220 := q_181.up u_209
   have q_221 := q_182.up u_209
   have q_222 := q_183.up u_209
   have q_223 := q_184.up u_209
   refine s_storeA (E := selvageref16_Cell_E) (i := a1.T) (inn := 0) (r := 0) (el := (⟨(gi r_163.2.answers 0), ([wrap64 ((r_163.2.events.length : Int) - 1)] : List Int)⟩ : selvageref16_Cell)) (vs := [.int .i64 (gi r_163.2.answers 0), .slice A_195 ([wrap64 ((r_163.2.events.length : Int) - 1)] : List Int).length c_196]) (pre := ([] : List Value)) (post := ([] : List Value) ++ (cs_170 ++ ([.int .i64 r_163.2.cmp.N, .slice A_6 r_163.2.cmp.Hang.length c_7, .slice A_9 r_163.2.ctrl.length c_10, .slice A_12 r_163.2.fenced.length c_13, .int .i64 r_163.2.hold, .int .i64 r_163.2.held, .slice A_175 r_163.2.events.length c_176, .slice A_19 r_163.2.answers.length c_20, .int .i64 r_163.2.locs, .int .i64 r_163.2.base] : List Value))) (fun q_ => (([] : List Value) ++ (q_ ++ (([] : List Value) ++ (cs_170 ++ ([.int .i64 r_163.2.cmp.N, .slice A_6 r_163.2.cmp.Hang.length c_7, .slice A_9 r_163.2.ctrl.length c_10, .slice A_12 r_163.2.fenced.length c_13, .int .i64 r_163.2.hold, .int .i64 r_163.2.held, .slice A_175 r_163.2.events.length c_176, .slice A_19 r_163.2.answers.length c_20, .int .i64 r_163.2.locs, .int .i64 r_163.2.base] : List Value)))))) hp_208 (tm rfl rfl) (tm rfl rfl) rfl Try.sizeOf67 rfl rfl rfl rfl (fun _ => rfl) rfl q_219 g_59 rfl q_206 ⟨A_195, c_196, rfl, q_211⟩ (fun w_224 cs_226 hp_225 q_227 => ?_)
   refine k_nil ?_
   refine ⟨(Wp.down u_209 (Wp.of hp_225 [1, 2, 3] rfl)), ?_⟩
   refine w_done (by kernel_rfl) ?_
   refine k_seq ?_
   refine k_region ?_
   refine srx tb hp_225 [] [] [⟨0, 864, _, _, cells_box (sz := 10) (hp_225.get (i := 0) (j := 0) rfl rfl) (segs 0 864 10 rfl (segs 64 800 10 (arr_len q_227 rfl) (segs 0 800 10 rfl (segs 800 0 10 (arr_len q_220 rfl) rfl))))⟩] [(0, 0, 0)] [] 5 [(106, .pointer (some ⟨b_1, 0, none⟩)), (110, .slice A_19 r_163.2.answers.length c_20)] (by kernel_rfl) fun σ => ?_
   obtain ⟨g_228, H⟩ := grd H
   obtain ⟨A_229, q_230, ct_231⟩ := ct_D (kl := .i64) (kh := .i64) (l := 1) (h := (r_163.2.answers.length : Int)) (t := 23) Try.runUnderlying23 Try.sizeOf2 g_228 q_216
   refine sv (v := .slice A_229 (r_163.2.answers.drop (1 : Int).toNat).length (c_20 - (1 : Int).toNat)) rfl rfl rfl (ct_231 (tm rfl rfl) (.inl (congrArg some rfl)) (.inr ⟨rfl, rfl⟩)) ?_
   refine sr tb hp_225 [(106, 0, 0)] 2 [(113, .pointer (some ⟨b_1, 871, none⟩))] (by kernel_rfl) fun σ => ?_
   refine s_store (i := 0) (j := 0) (vs := [.slice A_229 (r_163.2.answers.drop (1 : Int).toNat).length (c_20 - (1 : Int).toNat)]) (l' := (([] : List Value) ++ (cs_226 ++ (([] : List Value) ++ (cs_170 ++ ([.int .i64 r_163.2.cmp.N, .slice A_6 r_163.2.cmp.Hang.length c_7, .slice A_9 r_163.2.ctrl.length c_10, .slice A_12 r_163.2.fenced.length c_13, .int .i64 r_163.2.hold, .int .i64 r_163.2.held, .slice A_175 r_163.2.events.length c_176, .slice A_229 (r_163.2.answers.drop (1 : Int).toNat).length (c_20 - (1 : Int).toNat), .int .i64 r_163.2.locs, .int .i64 r_163.2.base] : List Value)))))) hp_225 (tm rfl rfl) (tm rfl rfl) rfl Try.sizeOf23 rfl rfl rfl rfl (ble_len (lenA rfl (lenA (arr_len q_227 rfl) (lenA rfl (lenA (arr_len q_220 rfl) rfl)))) rfl) (segu 0 871 rfl (segu 64 807 (arr_len q_227 rfl) (segu 0 807 rfl (segu 800 7 (arr_len q_220 rfl) rfl)))) (fun w_232 hp_233 => ?_)
   refine k_nil ?_
   refine kq tb hp_233 [(3, 2, 0)] [(116, .bool (decide (a1.Op = 14)))] (by kernel_rfl) fun σ => ?_
   refine k_if (tm rfl rfl) (fun h_234 => ?_) (fun h_234 => ?_)
   ·have H := ift h_234 H
    refine k_region ?_
    refine srx tb hp_233 [] [] [⟨0, 864, _, _, cells_box (sz := 10) (hp_233.get (i := 0) (j := 0) rfl rfl) (segs 0 864 10 rfl (segs 64 800 10 (arr_len q_227 rfl) (segs 0 800 10 rfl (segs 800 0 10 (arr_len q_220 rfl) rfl))))⟩] [(0, 0, 0)] [] 10 [(118, .pointer (some ⟨b_1, 0, none⟩)), (119, .int .i64 r_51.2), (124, .int .i64 (r_163.2.events.length : Int)), (126, .pointer (some ⟨b_1, 868, none⟩))] (by kernel_rfl) fun σ => ?_
    refine s_store (i := 0) (j := 0) (vs := [.int .i64 r_51.2]) (l' := (([] : List Value) ++ (cs_226 ++ (([] : List Value) ++ (cs_170 ++ ([.int .i64 r_163.2.cmp.N, .slice A_6 r_163.2.cmp.Hang.length c_7, .slice A_9 r_163.2.ctrl.length c_10, .slice A_12 r_163.2.fenced.length c_13, .int .i64 r_51.2, .int .i64 r_163.2.held, .slice A_175 r_163.2.events.length c_176, .slice A_229 (r_163.2.answers.drop (1 : Int).toNat).length (c_20 - (1 : Int).toNat), .int .i64 r_163.2.locs, .int .i64 r_163.2.base] : List Value)))))) hp_233 (tm rfl rfl) (tm rfl rfl) rfl Try.sizeOf3 rfl rfl rfl rfl (ble_len (lenA rfl (lenA (arr_len q_227 rfl) (lenA rfl (lenA (arr_len q_220 rfl) rfl)))) rfl) (segu 0 868 rfl (segu 64 804 (arr_len q_227 rfl) (segu 0 804 rfl (segu 800 4 (arr_len q_220 rfl) rfl)))) (fun w_235 hp_236 => ?_)
    refine sr tb hp_236 [(118, 0, 0)] 2 [(128, .pointer (some ⟨b_1, 869, none⟩))] (by kernel_rfl) fun σ => ?_
    refine s_store (i := 0) (j := 0) (vs := [.int .i64 (r_163.2.events.length : Int)]) (l' := (([] : List Value) ++ (cs_226 ++ (([] : List Value) ++ (cs_170 ++ ([.int .i64 r_163.2.cmp.N, .slice A_6 r_163.2.cmp.Hang.length c_7, .slice A_9 r_163.2.ctrl.length c_10, .slice A_12 r_163.2.fenced.length c_13, .int .i64 r_51.2, .int .i64 (r_163.2.events.length : Int), .slice A_175 r_163.2.events.length c_176, .slice A_229 (r_163.2.answers.drop (1 : Int).toNat).length (c_20 - (1 : Int).toNat), .int .i64 r_163.2.locs, .int .i64 r_163.2.base] : List Value)))))) hp_236 (tm rfl rfl) (tm rfl rfl) rfl Try.sizeOf3 rfl rfl rfl rfl (ble_len (lenA rfl (lenA (arr_len q_227 rfl) (lenA rfl (lenA (arr_len q_220 rfl) rfl)))) rfl) (segu 0 869 rfl (segu 64 805 (arr_len q_227 rfl) (segu 0 805 rfl (segu 800 5 (arr_len q_220 rfl) rfl)))) (fun w_237 hp_238 => ?_)
    refine k_nil ?_
    obtain rfl := Option.some.inj H
    exact ⟨{ r_163.2 with regs := (vp r_163.2.regs a1.T (⟨(gi r_163.2.answers 0), ([wrap64 ((r_163.2.events.length : Int) - 1)] : List Int)⟩ : selvageref16_Cell)), hold := r_51.2, held := (r_163.2.events.length : Int), answers := (r_163.2.answers.drop (1 : Int).toNat) }, _, (fun k => I_30 k ∨ On [X_198] k), w_197, cs_226, cs_170, A_6, c_7, A_175, c_176, X_178, A_229, (c_20 - (1 : Int).toNat), rfl, seenF trivial, ep_210, hp_238.pick [0, 1] (by decide) rfl, q_227, q_220, q_221, q_222, q_223, q_177, q_230⟩
   have H := iff_ h_234 H
   refine k_skip ?_
   obtain rfl := Option.some.inj H
   exact ⟨{ r_163.2 with regs := (vp r_163.2.regs a1.T (⟨(gi r_163.2.answers 0), ([wrap64 ((r_163.2.events.length : Int) - 1)] : List Int)⟩ : selvageref16_Cell)), answers := (r_163.2.answers.drop (1 : Int).toNat) }, _, (fun k => I_30 k ∨ On [X_198] k), w_197, cs_226, cs_170, A_6, c_7, A_175, c_176, X_178, A_229, (c_20 - (1 : Int).toNat), rfl, seenF trivial, ep_210, hp_233.pick [0, 1] (by decide) rfl, q_227, q_220, q_221, q_222, q_223, q_177, q_230⟩
  have H := iff_ h_82 H
  refine k_seq ?_
  refine kq tb hp_79 [] [(129, .bool (decide (a1.Op = 11)))] (by kernel_rfl) fun σ => ?_
  obtain ⟨o_240, H, G_241⟩ := bindSome H
  refine k_cut (fun a w' => ∃ (σ_415 : Nat → Value), a = st 200 [(0, .pointer (some ⟨b_1, 0, none⟩)), (5, .pointer (some ⟨b_44, 0, none⟩)), (6, .int .i64 r_51.1), (7, .int .i64 r_51.2), (8, .pointer (some ⟨b_66, 0, none⟩)), (29, .int .i64 a1.Op), (129, .bool o_240)] σ_415 [] ∧ Hp (On [[(b_1, .cells (([] : List Value) ++ (cs_2 ++ (([] : List Value) ++ (cs_4 ++ ([.int .i64 a0.cmp.N, .slice A_6 a0.cmp.Hang.length c_7, .slice A_9 a0.ctrl.length c_10, .slice A_12 a0.fenced.length c_13, .int .i64 a0.hold, .int .i64 a0.held, .slice A_15 a0.events.length c_16, .slice A_19 a0.answers.length c_20, .int .i64 a0.locs, .int .i64 a0.base] : List Value))))).toArray 71 (0, 0))], X_18]) I_30 w w_28 w' [[(b_1, .cells (([] : List Value) ++ (cs_2 ++ (([] : List Value) ++ (cs_4 ++ ([.int .i64 a0.cmp.N, .slice A_6 a0.cmp.Hang.length c_7, .slice A_9 a0.ctrl.length c_10, .slice A_12 a0.fenced.length c_13, .int .i64 a0.hold, .int .i64 a0.held, .slice A_15 a0.events.length c_16, .slice A_19 a0.answers.length c_20, .int .i64 a0.locs, .int .i64 a0.base] : List Value))))).toArray 71 (0, 0))], X_18, [(b_44, .cells #[.int .i64 r_27.N, .slice A_33 r_27.Hang.length c_34] 67 (0, 0))], [(b_66, .cells #[.int .i64 ((vg a0.regs a1.T).N), .slice A_60 ((vg a0.regs a1.T).Hang).length c_61] 67 (0, 0))]]) ?_ ?_
  ·refine k_if (tm rfl rfl) (fun h_242 => ?_) (fun h_242 => ?_)
   ·have H := ift h_242 H
    refine k_skip ?_
    obtain rfl := Option.some.inj H
    exact ⟨_, seenF ⟨rfl, rfl, rfl, rfl, rfl, rfl, rfl, trivial⟩, hp_79.pick [0, 1, 3, 4] (by decide) rfl⟩
   have H := iff_ h_242 H
   refine kr tb hp_79 [] [(129, .bool (decide (a1.Op = 13)))] (by kernel_rfl) fun σ => ?_
   obtain rfl := Option.some.inj H
   exact ⟨_, seenF ⟨rfl, rfl, rfl, rfl, rfl, rfl, rfl, trivial⟩, hp_79.pick [0, 1, 3, 4] (by decide) rfl⟩
  clear H
  rintro a w' ⟨σ_243, rfl, hp_244⟩
  have H := G_241
  refine k_if (tm rfl rfl) (fun h_247 => ?_) (fun h_247 => ?_)
  ·as_aux_lemma =>
   have H := ift h_247 H
   refine k_seq ?_
   refine kq tb hp_244 [] [(133, .bool (decide (r_51.1 = 2)))] (by kernel_rfl) fun σ => ?_
   refine k_if (tm rfl rfl) (fun h_248 => ?_) (fun h_248 => ?_)
   ·as_aux_lemma =>
    have H := ift h_248 H
    refine k_seq ?_
    refine k_anyF [[0, 1, 2, 3], [0, 1, 2, 3], [0, 1, 2, 3], [0, 1, 2, 3], [0, 1, 2, 3], [0, 1, 2, 3], [0, 1, 2, 3], [0, 1, 2, 3], [0, 1, 2, 3], [0, 1, 2, 3], [0, 1, 2, 3], [0, 1, 2, 3], [0, 1, 2, 3], [1, 2, 3]] [0, 0, 0, 4, 0, 16, 0, 64, 240, 508, 1, 1025, 4095, 8191] mixed hp_244 14 (by kernel_rfl) (fun w_249 hp_250 => ?_)
    refine w_takes (f := 4) tb [0, 1, 2, 3] (Wp.of hp_250 [0, 1, 2, 3] rfl) [] [] [] [(0, 0, 0), (5, 2, 0), (8, 3, 0)] [] [0, 1, 2, 4, 6, 10, 11, 3, 5, 7] 3327 [(135, .int .i64 r_51.2), (145, .pointer (some ⟨b_1, 64, none⟩)), (137, .int .i64 ((vg a0.regs a1.T).N)), (139, .slice A_60 ((vg a0.regs a1.T).Hang).length c_61), (141, .slice A_33 r_27.Hang.length c_34)] (fun _ => (po_then (po_x po_body))) rfl rfl (by kernel_rfl) fun σ => ?_
    refine w_one (m' := 3583) 8 rfl (by kernel_rfl) (by kernel_rfl) ?_
    obtain ⟨r_253, hx_252, H⟩ := bindSome H
    refine s_call (.cons (tm rfl rfl) (.cons (tm rfl rfl) .nil)) Try.call25 (selvageref16_join.calls ((vg a0.regs a1.T).Hang) A_60 c_61 r_27.Hang A_33 c_34 r_253 _ _ (Hp.offCov hp_250 [] [[(b_1, .cells (([] : List Value) ++ (cs_2 ++ (([] : List Value) ++ (cs_4 ++ ([.int .i64 a0.cmp.N, .slice A_6 a0.cmp.Hang.length c_7, .slice A_9 a0.ctrl.length c_10, .slice A_12 a0.fenced.length c_13, .int .i64 a0.hold, .int .i64 a0.held, .slice A_15 a0.events.length c_16, .slice A_19 a0.answers.length c_20, .int .i64 a0.locs, .int .i64 a0.base] : List Value))))).toArray 71 (0, 0))], X_18, [(b_44, .cells #[.int .i64 r_27.N, .slice A_33 r_27.Hang.length c_34] 67 (0, 0))], [(b_66, .cells #[.int .i64 ((vg a0.regs a1.T).N), .slice A_60 ((vg a0.regs a1.T).Hang).length c_61] 67 (0, 0))]] rfl) (RdS.pass q_62 hp_250) (RdS.pass q_35 hp_250) hx_252) rfl ?_
    rintro v_ w_254 ⟨A_258, c_259, X_261, rfl, q_260, af_257⟩
    have hp_255 := Hp.callA af_257 hp_250
    refine k_nil ?_
    refine ⟨(Wp.of hp_255 [1, 2, 3, 4] rfl), ?_⟩
    obtain ⟨g_262, H⟩ := grd H
    obtain ⟨cs_267, rp_266, q_268⟩ := arr_elem q_39 g_262
    obtain ⟨A_263, c_264, rfl, q_265⟩ := rp_266
    refine w_takes (f := 1) tb [0, 1, 2, 3] (Wp.of hp_255 [1, 2, 3, 4] rfl) [⟨_, _, [0], fun w h => arr_at (pre := (([] : List Value) ++ (cs_2 ++ ([] : List Value)))) (post := ([.int .i64 a0.cmp.N, .slice A_6 a0.cmp.Hang.length c_7, .slice A_9 a0.ctrl.length c_10, .slice A_12 a0.fenced.length c_13, .int .i64 a0.hold, .int .i64 a0.held, .slice A_15 a0.events.length c_16, .slice A_19 a0.answers.length c_20, .int .i64 a0.locs, .int .i64 a0.base] : List Value)) (h.get (i := 0) (j := 0) rfl rfl) (by simp only [List.append_assoc]) (lenA rfl (lenA (arr_len q_38 rfl) rfl)) q_268⟩] [.a 146 4 b_1 64 _ _ g_262] [] [(145, 0, 64)] [] [9, 12] 8191 [(143, .agg #[.int .i64 ((vg a0.regs a1.T).N), .slice A_258 r_253.length c_259]), (146, .pointer (some ⟨b_1, 64 + (r_51.2 : Int).toNat * 2, none⟩))] (fun _ => (po_then (po_x po_body))) rfl rfl (by kernel_rfl) fun σ => ?_
    refine w_one (m' := 16383) 13 rfl (by kernel_rfl) (by kernel_rfl) ?_
    have hp_269 := Hp.pick (R' := [X_261, [(b_1, .cells (([] : List Value) ++ (cs_2 ++ (([] : List Value) ++ (cs_4 ++ ([.int .i64 a0.cmp.N, .slice A_6 a0.cmp.Hang.length c_7, .slice A_9 a0.ctrl.length c_10, .slice A_12 a0.fenced.length c_13, .int .i64 a0.hold, .int .i64 a0.held, .slice A_15 a0.events.length c_16, .slice A_19 a0.answers.length c_20, .int .i64 a0.locs, .int .i64 a0.base] : List Value))))).toArray 71 (0, 0))], X_18, [(b_44, .cells #[.int .i64 r_27.N, .slice A_33 r_27.Hang.length c_34] 67 (0, 0))], [(b_66, .cells #[.int .i64 ((vg a0.regs a1.T).N), .slice A_60 ((vg a0.regs a1.T).Hang).length c_61] 67 (0, 0))]]) [0, 1, 2, 3, 4] hp_255 (by decide) rfl
    have q_273 := (Own.any q_260).froze hp_269
    have ep_272 := ep_36.freeze hp_269
    have u_271 := hp_269.frozenUp
    have hp_270 := hp_269.freeze
    have q_275 := q_62.up u_271
    have q_276 := q_35.up u_271
    have q_277 := q_265.up u_271
    have q_278 := q_38.up u_271
    have q_279 := q_39.up u_271
    have q_280 := q_40.up u_271
    have q_281 := q_41.up u_271
    have q_282 := q_42.up u_271
    have q_283 := q_43.up u_271
    refine s_storeA (E := selvageref16_Cell_E) (i := r_51.2) (inn := 0) (r := 0) (el := (⟨(vg a0.regs a1.T).N, r_253⟩ : selvageref16_Cell)) (vs := [.int .i64 ((vg a0.regs a1.T).N), .slice A_258 r_253.length c_259]) (pre := (([] : List Value) ++ (cs_2 ++ ([] : List Value)))) (post := ([.int .i64 a0.cmp.N, .slice A_6 a0.cmp.Hang.length c_7, .slice A_9 a0.ctrl.length c_10, .slice A_12 a0.fenced.length c_13, .int .i64 a0.hold, .int .i64 a0.held, .slice A_15 a0.events.length c_16, .slice A_19 a0.answers.length c_20, .int .i64 a0.locs, .int .i64 a0.base] : List Value)) (fun q_ => (([] : List Value) ++ (cs_2 ++ (([] : List Value) ++ (q_ ++ ([.int .i64 a0.cmp.N, .slice A_6 a0.cmp.Hang.length c_7, .slice A_9 a0.ctrl.length c_10, .slice A_12 a0.fenced.length c_13, .int .i64 a0.hold, .int .i64 a0.held, .slice A_15 a0.events.length c_16, .slice A_19 a0.answers.length c_20, .int .i64 a0.locs, .int .i64 a0.base] : List Value)))))) hp_270 (tm rfl rfl) (tm rfl rfl) rfl Try.sizeOf67 rfl rfl rfl (by simp only [List.append_assoc]) (fun _ => by simp only [List.append_assoc]) (lenA rfl (lenA (arr_len q_278 rfl) rfl)) q_279 g_262 rfl q_268 ⟨A_258, c_259, rfl, q_273⟩ (fun w_284 cs_286 hp_285 q_287 => ?_)
    refine k_nil ?_
    refine ⟨(Wp.down u_271 (Wp.of hp_285 [1, 2, 3] rfl)), ?_⟩
    refine w_done (by kernel_rfl) ?_
    refine kq tb hp_285 [] [(4, .int .i64 0)] (by kernel_rfl) fun σ => ?_
    refine k_ret ?_
    refine q_ret ?_
    obtain ⟨v_, H', hv_⟩ := mapSome H
    subst hv_
    have H := H'.trans (show some v_ = _ from G_72)
    obtain rfl := Option.some.inj H
    exact k_end rfl (.tmp rfl rfl .nil) rfl ⟨_, cs_2, cs_286, A_6, c_7, A_15, c_16, X_18, A_19, c_20, rfl, (Reps.up q_278 (Hp.up hp_285)), (Reps.up q_287 (Hp.up hp_285)), (RdS.now q_280 hp_285), (RdS.now q_281 hp_285), (RdS.now q_282 hp_285), q_17, (RdS.now q_283 hp_285), (Ep.frz ep_272 (hp_285.pick [0, 1] (by decide) rfl)), (hp_285.pick [0, 1] (by decide) rfl).aft⟩
   have H := iff_ h_248 H
   refine k_skip ?_
   refine k_seq ?_
   refine k_anyF [[0, 1, 2, 3], [0, 1, 2, 3], [0, 1, 2, 3], [0, 1, 2, 3], [0, 1, 2, 3], [0, 1, 2, 3], [0, 1, 2, 3], [0, 1, 2, 3], [0, 1, 2, 3], [0, 1, 2, 3], [0, 1, 2, 3], [2, 3], [2, 3]] [0, 0, 0, 4, 0, 16, 48, 0, 128, 496, 1022, 2047, 4095] mixed hp_244 13 (by kernel_rfl) (fun w_288 hp_289 => ?_)
   refine w_takes (f := 5) tb [0, 1, 2, 3] (Wp.of hp_289 [0, 1, 2, 3] rfl) [] [] [] [(0, 0, 0), (5, 2, 0), (8, 3, 0)] [] [0, 1, 2, 4, 7, 3, 5, 8] 447 [(147, .pointer (some ⟨b_1, 0, none⟩)), (148, .int .i64 r_51.2), (150, .int .i64 ((vg a0.regs a1.T).N)), (152, .slice A_33 r_27.Hang.length c_34), (155, .slice A_60 ((vg a0.regs a1.T).Hang).length c_61)] (fun _ => (po_then (po_x po_body))) rfl rfl (by kernel_rfl) fun σ => ?_
   refine w_one (m' := 511) 6 rfl (by kernel_rfl) (by kernel_rfl) ?_
   obtain ⟨r_292, hx_291, H⟩ := bindSome H
   refine s_call (.cons (tm rfl rfl) .nil) Try.call50 (selvageref16_mask.calls r_27.Hang A_33 c_34 r_292 _ _ (Hp.offCov hp_289 [] [[(b_1, .cells (([] : List Value) ++ (cs_2 ++ (([] : List Value) ++ (cs_4 ++ ([.int .i64 a0.cmp.N, .slice A_6 a0.cmp.Hang.length c_7, .slice A_9 a0.ctrl.length c_10, .slice A_12 a0.fenced.length c_13, .int .i64 a0.hold, .int .i64 a0.held, .slice A_15 a0.events.length c_16, .slice A_19 a0.answers.length c_20, .int .i64 a0.locs, .int .i64 a0.base] : List Value))))).toArray 71 (0, 0))], X_18, [(b_44, .cells #[.int .i64 r_27.N, .slice A_33 r_27.Hang.length c_34] 67 (0, 0))], [(b_66, .cells #[.int .i64 ((vg a0.regs a1.T).N), .slice A_60 ((vg a0.regs a1.T).Hang).length c_61] 67 (0, 0))]] rfl) (RdS.pass q_35 hp_289) hx_291) rfl ?_
   rintro v_ w_293 ⟨rfl, af_296⟩
   have hp_294 := Hp.callA af_296 hp_289
   refine k_nil ?_
   refine ⟨(Wp.of hp_294 [0, 1, 2, 3] rfl), ?_⟩
   refine w_one (m' := 1023) 9 rfl (by kernel_rfl) (by kernel_rfl) ?_
   obtain ⟨r_299, hx_298, H⟩ := bindSome H
   refine s_call (.cons (tm rfl rfl) .nil) Try.call50 (selvageref16_mask.calls ((vg a0.regs a1.T).Hang) A_60 c_61 r_299 _ _ (Hp.offCov hp_294 [] [[(b_1, .cells (([] : List Value) ++ (cs_2 ++ (([] : List Value) ++ (cs_4 ++ ([.int .i64 a0.cmp.N, .slice A_6 a0.cmp.Hang.length c_7, .slice A_9 a0.ctrl.length c_10, .slice A_12 a0.fenced.length c_13, .int .i64 a0.hold, .int .i64 a0.held, .slice A_15 a0.events.length c_16, .slice A_19 a0.answers.length c_20, .int .i64 a0.locs, .int .i64 a0.base] : List Value))))).toArray 71 (0, 0))], X_18, [(b_44, .cells #[.int .i64 r_27.N, .slice A_33 r_27.Hang.length c_34] 67 (0, 0))], [(b_66, .cells #[.int .i64 ((vg a0.regs a1.T).N), .slice A_60 ((vg a0.regs a1.T).Hang).length c_61] 67 (0, 0))]] rfl) (RdS.pass q_62 hp_294) hx_298) rfl ?_
   rintro v_ w_300 ⟨rfl, af_303⟩
   have hp_301 := Hp.callA af_303 hp_294
   refine k_nil ?_
   refine ⟨(Wp.of hp_301 [0, 1, 2, 3] rfl), ?_⟩
   refine w_take (m' := 2047) (v := .agg #[.int .i64 2, .int .i64 r_51.2, .int .i64 ((vg a0.regs a1.T).N), .int .i64 0, .int .u64 r_292, .int .u64 r_299, .int .u64 0, .int .u64 0]) 10 rfl rfl (by kernel_rfl) (by kernel_rfl) (by kernel_rfl) (by kernel_rfl) (by kernel_rfl) (by kernel_rfl) (by kernel_rfl) (po_then (po_x po_body)) (Wp.of hp_301 [0, 1, 2, 3] rfl) (y_val (fun w_ hW_ => e_build (vs := [(0, .int .i64 2), (1, .int .i64 r_51.2), (2, .int .i64 ((vg a0.regs a1.T).N)), (4, .int .u64 r_292), (5, .int .u64 r_299)]) (cs := [.int .i64 2, .int .i64 r_51.2, .int .i64 ((vg a0.regs a1.T).N), .int .i64 0, .int .u64 r_292, .int .u64 r_299, .int .u64 0, .int .u64 0]) (.cons rfl (.cons (tm rfl rfl) (.cons (tm rfl rfl) (.cons (tm rfl rfl) (.cons (tm rfl rfl) .nil))))) (by kernel_rfl))) ?_
   refine w_one (m' := 4095) 11 rfl (by kernel_rfl) (by kernel_rfl) ?_
   obtain ⟨r_306, hx_305, H⟩ := bindSome H
   refine s_call (.cons (tm rfl rfl) (.cons (tm rfl rfl) .nil)) Try.call24 (selvageref16_state_event.calls a0 b_1 cs_2 cs_4 A_6 c_7 A_9 c_10 A_12 c_13 A_15 c_16 X_18 A_19 c_20 (⟨2, r_51.2, (vg a0.regs a1.T).N, 0, r_292, r_299, 0, 0⟩ : api_Event) r_306 _ _ (Hp.offI hp_301 [[(b_1, .cells (([] : List Value) ++ (cs_2 ++ (([] : List Value) ++ (cs_4 ++ ([.int .i64 a0.cmp.N, .slice A_6 a0.cmp.Hang.length c_7, .slice A_9 a0.ctrl.length c_10, .slice A_12 a0.fenced.length c_13, .int .i64 a0.hold, .int .i64 a0.held, .slice A_15 a0.events.length c_16, .slice A_19 a0.answers.length c_20, .int .i64 a0.locs, .int .i64 a0.base] : List Value))))).toArray 71 (0, 0))], X_18] _ rfl) (Hp.have1 hp_301 [[(b_1, .cells (([] : List Value) ++ (cs_2 ++ (([] : List Value) ++ (cs_4 ++ ([.int .i64 a0.cmp.N, .slice A_6 a0.cmp.Hang.length c_7, .slice A_9 a0.ctrl.length c_10, .slice A_12 a0.fenced.length c_13, .int .i64 a0.hold, .int .i64 a0.held, .slice A_15 a0.events.length c_16, .slice A_19 a0.answers.length c_20, .int .i64 a0.locs, .int .i64 a0.base] : List Value))))).toArray 71 (0, 0))], X_18] _ rfl) (Reps.up q_38 (Hp.up hp_301)) (Reps.up q_39 (Hp.up hp_301)) (RdS.now q_40 hp_301) (RdS.now q_41 hp_301) (RdS.now q_42 hp_301) q_17 (RdS.now q_43 hp_301) hx_305) rfl ?_
   rintro v_ w_307 ⟨cs_311, cs_313, A_318, c_319, X_321, rfl, q_312, q_314, q_315, q_316, q_317, q_320, q_322, af_310⟩
   have hp_308 := Hp.callA af_310 hp_301
   have q_323 := q_312.up (Hp.down hp_301)
   have q_324 := q_314.up (Hp.down hp_301)
   have q_325 := q_315.up (Hp.down hp_301)
   have q_326 := q_316.up (Hp.down hp_301)
   have q_327 := q_317.up (Hp.down hp_301)
   have q_328 := q_322.up (Hp.down hp_301)
   refine k_nil ?_
   refine ⟨(Wp.of hp_308 [2, 3] rfl), ?_⟩
   refine w_take (m' := 8191) (v := .bool (!r_306.1)) 12 rfl rfl (by kernel_rfl) (by kernel_rfl) (by kernel_rfl) (by kernel_rfl) (by kernel_rfl) (by kernel_rfl) (by kernel_rfl) (po_then (po_x po_body)) (Wp.of hp_308 [2, 3] rfl) (y_val (fun w_ hW_ => e_un (tm rfl rfl) (r_not rfl))) ?_
   refine w_done (by kernel_rfl) ?_
   refine k_if (tm rfl rfl) (fun h_329 => ?_) (fun h_329 => ?_)
   ·have H := ift h_329 H
    refine kq tb hp_308 [] [(4, .int .i64 5)] (by kernel_rfl) fun σ => ?_
    refine k_ret ?_
    refine q_ret ?_
    obtain ⟨v_, H', hv_⟩ := mapSome H
    subst hv_
    have H := H'.trans (show some v_ = _ from G_72)
    obtain rfl := Option.some.inj H
    exact k_end rfl (.tmp rfl rfl .nil) rfl ⟨_, cs_311, cs_313, A_6, c_7, A_318, c_319, X_321, A_19, c_20, rfl, (Reps.up q_323 (Hp.up hp_308)), (Reps.up q_324 (Hp.up hp_308)), (RdS.now q_325 hp_308), (RdS.now q_326 hp_308), (RdS.now q_327 hp_308), q_320, (RdS.now q_328 hp_308), (Ep.frz ep_36 (hp_308.pick [0, 1] (by decide) rfl)), (hp_308.pick [0, 1] (by decide) rfl).aft⟩
   have H := iff_ h_329 H
   refine k_skip ?_
   obtain rfl := Option.some.inj H
   exact ⟨r_306.2, _, I_30, w_28, cs_311, cs_313, A_6, c_7, A_318, c_319, X_321, A_19, c_20, rfl, seenF trivial, ep_36, hp_308.pick [0, 1] (by decide) rfl, q_323, q_324, q_325, q_326, q_327, q_320, q_328⟩
  have H := iff_ h_247 H
  refine kq tb hp_244 [] [(160, .bool (decide (a1.Op = 15)))] (by kernel_rfl) fun σ => ?_
  refine k_if (tm rfl rfl) (fun h_330 => ?_) (fun h_330 => ?_)
  ·as_aux_lemma =>
   have H := ift h_330 H
   refine k_seq ?_
   refine k_region ?_
   refine sr tb hp_244 [(0, 0, 0)] 4 [(163, .agg #[.int .i64 1, .slice none 0 0]), (165, .pointer (some ⟨b_1, 864, none⟩))] (by kernel_rfl) fun σ => ?_
   refine s_store (i := 0) (j := 0) (vs := [.int .i64 1, .slice none 0 0]) (l' := (([] : List Value) ++ (cs_2 ++ (([] : List Value) ++ (cs_4 ++ ([.int .i64 1, .slice none 0 0, .slice A_9 a0.ctrl.length c_10, .slice A_12 a0.fenced.length c_13, .int .i64 a0.hold, .int .i64 a0.held, .slice A_15 a0.events.length c_16, .slice A_19 a0.answers.length c_20, .int .i64 a0.locs, .int .i64 a0.base] : List Value)))))) hp_244 (tm rfl rfl) (tm rfl rfl) rfl Try.sizeOf67 rfl rfl rfl rfl (ble_len (lenA rfl (lenA (arr_len q_38 rfl) (lenA rfl (lenA (arr_len q_39 rfl) rfl)))) rfl) (segu 0 864 rfl (segu 64 800 (arr_len q_38 rfl) (segu 0 800 rfl (segu 800 0 (arr_len q_39 rfl) rfl)))) (fun w_331 hp_332 => ?_)
   refine k_nil ?_
   refine k_seq ?_
   refine kqx tb hp_332 [] [] [⟨0, 864, _, _, cells_box (sz := 10) (hp_332.get (i := 0) (j := 0) rfl rfl) (segs 0 864 10 rfl (segs 64 800 10 (arr_len q_38 rfl) (segs 0 800 10 rfl (segs 800 0 10 (arr_len q_39 rfl) rfl))))⟩] [(0, 0, 0)] [] [(175, .bool ((decide (r_51.1 = 1)) && (decide (a0.hold = r_51.2))))] (by kernel_rfl) fun σ => ?_
   obtain ⟨o_333, H, G_334⟩ := bindSome H
   refine k_cut (fun a w' => ∃ (s_335 : selvageref16_state) (σ_414 : Nat → Value) (cs_418 : List Value) (cs_420 : List Value) (A_422 : Option Addr) (c_423 : Nat) (X_425 : Rsc) (A_428 : Option Addr) (c_429 : Nat) (X_431 : Rsc), o_333 = Sum.inl s_335 ∧ a = st 200 [(0, .pointer (some ⟨b_1, 0, none⟩))] σ_414 [] ∧ Hp (On [[(b_1, .cells (([] : List Value) ++ (cs_2 ++ (([] : List Value) ++ (cs_4 ++ ([.int .i64 a0.cmp.N, .slice A_6 a0.cmp.Hang.length c_7, .slice A_9 a0.ctrl.length c_10, .slice A_12 a0.fenced.length c_13, .int .i64 a0.hold, .int .i64 a0.held, .slice A_15 a0.events.length c_16, .slice A_19 a0.answers.length c_20, .int .i64 a0.locs, .int .i64 a0.base] : List Value))))).toArray 71 (0, 0))], X_18]) I_30 w w_28 w' [[(b_1, .cells (([] : List Value) ++ (cs_418 ++ (([] : List Value) ++ (cs_420 ++ ([.int .i64 s_335.cmp.N, .slice A_422 s_335.cmp.Hang.length c_423, .slice A_9 s_335.ctrl.length c_10, .slice A_12 s_335.fenced.length c_13, .int .i64 s_335.hold, .int .i64 s_335.held, .slice A_428 s_335.events.length c_429, .slice A_19 s_335.answers.length c_20, .int .i64 s_335.locs, .int .i64 s_335.base] : List Value))))).toArray 71 (0, 0))], X_425, X_431] ∧ Reps selvageref16_Cell_E I_30 w_28 s_335.regs.toList cs_418 ∧ Reps selvageref16_Cell_E I_30 w_28 s_335.stack.toList cs_420 ∧ Own (intE .i64) no wz 3 A_422 c_423 s_335.cmp.Hang X_425 ∧ RdS (intE .i64) I_30 w_28 A_9 c_10 s_335.ctrl ∧ RdS (intE .i64) I_30 w_28 A_12 c_13 s_335.fenced ∧ Own api_Event_E no wz 33 A_428 c_429 s_335.events X_431 ∧ RdS (intE .i64) I_30 w_28 A_19 c_20 s_335.answers) ?_ ?_
   ·as_aux_lemma =>
    refine k_if (tm rfl rfl) (fun h_336 => ?_) (fun h_336 => ?_)
    ·as_aux_lemma =>
     have H := ift h_336 H
     refine k_seq ?_
     refine k_seq ?_
     refine k_anyF [[0, 1, 2, 3], [0, 1, 2, 3], [0, 1, 2, 3], [0, 1, 2, 3], [0, 1, 2, 3], [0, 1, 2, 3], [0, 1, 2, 3], [0, 1, 2, 3], [0, 1, 2, 3], [0, 1, 2, 3], [0, 1, 2, 3], [0, 1, 2, 3], [0, 1, 2, 3], [0, 1, 2, 3], [0, 1, 2, 3], [2, 3], [2, 3]] [0, 0, 0, 4, 0, 16, 48, 112, 0, 256, 768, 0, 2048, 7936, 16382, 32767, 65535] mixed hp_332 17 (by kernel_rfl) (fun w_337 hp_338 => ?_)
     refine w_takes (f := 5) tb [0, 1, 2, 3] (Wp.of hp_338 [0, 1, 2, 3] rfl) [] [] [⟨0, 864, _, _, [0], fun w h => cells_box (sz := 10) (h.get (i := 0) (j := 0) rfl rfl) (segs 0 864 10 rfl (segs 64 800 10 (arr_len q_38 rfl) (segs 0 800 10 rfl (segs 800 0 10 (arr_len q_39 rfl) rfl))))⟩] [(0, 0, 0), (5, 2, 0), (8, 3, 0)] [] [0, 1, 2, 4, 5, 6, 8, 11, 3, 7, 9, 12] 7167 [(176, .pointer (some ⟨b_1, 0, none⟩)), (177, .int .i64 r_51.2), (179, .int .i64 ((vg a0.regs a1.T).N)), (183, .int .i64 a0.held), (185, .slice A_33 r_27.Hang.length c_34), (188, .slice A_60 ((vg a0.regs a1.T).Hang).length c_61)] (fun _ => (po_then (po_x po_body))) rfl rfl (by kernel_rfl) fun σ => ?_
     refine w_one (m' := 8191) 10 rfl (by kernel_rfl) (by kernel_rfl) ?_
     obtain ⟨r_341, hx_340, H⟩ := bindSome H
     refine s_call (.cons (tm rfl rfl) .nil) Try.call50 (selvageref16_mask.calls r_27.Hang A_33 c_34 r_341 _ _ (Hp.offCov hp_338 [] [[(b_1, .cells (([] : List Value) ++ (cs_2 ++ (([] : List Value) ++ (cs_4 ++ ([.int .i64 1, .slice none 0 0, .slice A_9 a0.ctrl.length c_10, .slice A_12 a0.fenced.length c_13, .int .i64 a0.hold, .int .i64 a0.held, .slice A_15 a0.events.length c_16, .slice A_19 a0.answers.length c_20, .int .i64 a0.locs, .int .i64 a0.base] : List Value))))).toArray 71 (0, 0))], X_18, [(b_44, .cells #[.int .i64 r_27.N, .slice A_33 r_27.Hang.length c_34] 67 (0, 0))], [(b_66, .cells #[.int .i64 ((vg a0.regs a1.T).N), .slice A_60 ((vg a0.regs a1.T).Hang).length c_61] 67 (0, 0))]] rfl) (RdS.pass q_35 hp_338) hx_340) rfl ?_
     rintro v_ w_342 ⟨rfl, af_345⟩
     have hp_343 := Hp.callA af_345 hp_338
     refine k_nil ?_
     refine ⟨(Wp.of hp_343 [0, 1, 2, 3] rfl), ?_⟩
     refine w_one (m' := 16383) 13 rfl (by kernel_rfl) (by kernel_rfl) ?_
     obtain ⟨r_348, hx_347, H⟩ := bindSome H
     refine s_call (.cons (tm rfl rfl) .nil) Try.call50 (selvageref16_mask.calls ((vg a0.regs a1.T).Hang) A_60 c_61 r_348 _ _ (Hp.offCov hp_343 [] [[(b_1, .cells (([] : List Value) ++ (cs_2 ++ (([] : List Value) ++ (cs_4 ++ ([.int .i64 1, .slice none 0 0, .slice A_9 a0.ctrl.length c_10, .slice A_12 a0.fenced.length c_13, .int .i64 a0.hold, .int .i64 a0.held, .slice A_15 a0.events.length c_16, .slice A_19 a0.answers.length c_20, .int .i64 a0.locs, .int .i64 a0.base] : List Value))))).toArray 71 (0, 0))], X_18, [(b_44, .cells #[.int .i64 r_27.N, .slice A_33 r_27.Hang.length c_34] 67 (0, 0))], [(b_66, .cells #[.int .i64 ((vg a0.regs a1.T).N), .slice A_60 ((vg a0.regs a1.T).Hang).length c_61] 67 (0, 0))]] rfl) (RdS.pass q_62 hp_343) hx_347) rfl ?_
     rintro v_ w_349 ⟨rfl, af_352⟩
     have hp_350 := Hp.callA af_352 hp_343
     refine k_nil ?_
     refine ⟨(Wp.of hp_350 [0, 1, 2, 3] rfl), ?_⟩
     refine w_take (m' := 32767) (v := .agg #[.int .i64 2, .int .i64 r_51.2, .int .i64 ((vg a0.regs a1.T).N), .int .i64 a0.held, .int .u64 r_341, .int .u64 r_348, .int .u64 0, .int .u64 0]) 14 rfl rfl (by kernel_rfl) (by kernel_rfl) (by kernel_rfl) (by kernel_rfl) (by kernel_rfl) (by kernel_rfl) (by kernel_rfl) (po_then (po_x po_body)) (Wp.of hp_350 [0, 1, 2, 3] rfl) (y_val (fun w_ hW_ => e_build (vs := [(0, .int .i64 2), (1, .int .i64 r_51.2), (2, .int .i64 ((vg a0.regs a1.T).N)), (3, .int .i64 a0.held), (4, .int .u64 r_341), (5, .int .u64 r_348)]) (cs := [.int .i64 2, .int .i64 r_51.2, .int .i64 ((vg a0.regs a1.T).N), .int .i64 a0.held, .int .u64 r_341, .int .u64 r_348, .int .u64 0, .int .u64 0]) (.cons rfl (.cons (tm rfl rfl) (.cons (tm rfl rfl) (.cons (tm rfl rfl) (.cons (tm rfl rfl) (.cons (tm rfl rfl) .nil)))))) (by kernel_rfl))) ?_
     refine w_one (m' := 65535) 15 rfl (by kernel_rfl) (by kernel_rfl) ?_
     obtain ⟨r_355, hx_354, H⟩ := bindSome H
     refine s_call (.cons (tm rfl rfl) (.cons (tm rfl rfl) .nil)) Try.call24 (selvageref16_state_event.calls { a0 with cmp := (⟨1, ([] : List Int)⟩ : selvageref16_Cell) } b_1 cs_2 cs_4 none 0 A_9 c_10 A_12 c_13 A_15 c_16 X_18 A_19 c_20 (⟨2, r_51.2, (vg a0.regs a1.T).N, a0.held, r_341, r_348, 0, 0⟩ : api_Event) r_355 _ _ (Hp.offI hp_350 [[(b_1, .cells (([] : List Value) ++ (cs_2 ++ (([] : List Value) ++ (cs_4 ++ ([.int .i64 1, .slice none 0 0, .slice A_9 a0.ctrl.length c_10, .slice A_12 a0.fenced.length c_13, .int .i64 a0.hold, .int .i64 a0.held, .slice A_15 a0.events.length c_16, .slice A_19 a0.answers.length c_20, .int .i64 a0.locs, .int .i64 a0.base] : List Value))))).toArray 71 (0, 0))], X_18] _ rfl) (Hp.have1 hp_350 [[(b_1, .cells (([] : List Value) ++ (cs_2 ++ (([] : List Value) ++ (cs_4 ++ ([.int .i64 1, .slice none 0 0, .slice A_9 a0.ctrl.length c_10, .slice A_12 a0.fenced.length c_13, .int .i64 a0.hold, .int .i64 a0.held, .slice A_15 a0.events.length c_16, .slice A_19 a0.answers.length c_20, .int .i64 a0.locs, .int .i64 a0.base] : List Value))))).toArray 71 (0, 0))], X_18] _ rfl) (Reps.up q_38 (Hp.up hp_350)) (Reps.up q_39 (Hp.up hp_350)) (RdS.nil _ _) (RdS.now q_41 hp_350) (RdS.now q_42 hp_350) q_17 (RdS.now q_43 hp_350) hx_354) rfl ?_
     rintro v_ w_356 ⟨cs_360, cs_362, A_367, c_368, X_370, rfl, q_361, q_363, q_364, q_365, q_366, q_369, q_371, af_359⟩
     have hp_357 := Hp.callA af_359 hp_350
     have q_372 := q_361.up (Hp.down hp_350)
     have q_373 := q_363.up (Hp.down hp_350)
     have q_374 := q_364.up (Hp.down hp_350)
     have q_375 := q_365.up (Hp.down hp_350)
     have q_376 := q_366.up (Hp.down hp_350)
     have q_377 := q_371.up (Hp.down hp_350)
     refine k_nil ?_
     refine ⟨(Wp.of hp_357 [2, 3] rfl), ?_⟩
     refine w_take (m' := 131071) (v := .bool (!r_355.1)) 16 rfl rfl (by kernel_rfl) (by kernel_rfl) (by kernel_rfl) (by kernel_rfl) (by kernel_rfl) (by kernel_rfl) (by kernel_rfl) (po_then (po_x po_body)) (Wp.of hp_357 [2, 3] rfl) (y_val (fun w_ hW_ => e_un (tm rfl rfl) (r_not rfl))) ?_
     refine w_done (by kernel_rfl) ?_
     refine k_if (tm rfl rfl) (fun h_378 => ?_) (fun h_378 => ?_)
     ·have H := ift h_378 H
      refine kq tb hp_357 [] [(4, .int .i64 5)] (by kernel_rfl) fun σ => ?_
      refine k_ret ?_
      refine q_ret ?_
      obtain ⟨v_, H', hv_⟩ := mapSome H
      subst hv_
      have H := H'.trans (show some v_ = _ from G_334)
      obtain ⟨v_, H', hv_⟩ := mapSome H
      subst hv_
      have H := H'.trans (show some v_ = _ from G_72)
      obtain rfl := Option.some.inj H
      exact k_end rfl (.tmp rfl rfl .nil) rfl ⟨_, cs_360, cs_362, none, 0, A_367, c_368, X_370, A_19, c_20, rfl, (Reps.up q_372 (Hp.up hp_357)), (Reps.up q_373 (Hp.up hp_357)), (RdS.now q_374 hp_357), (RdS.now q_375 hp_357), (RdS.now q_376 hp_357), q_369, (RdS.now q_377 hp_357), (Ep.frz ep_36 (hp_357.pick [0, 1] (by decide) rfl)), (hp_357.pick [0, 1] (by decide) rfl).aft⟩
     have H := iff_ h_378 H
     refine k_skip ?_
     refine k_region ?_
     refine sr tb hp_357 [(0, 0, 0)] 4 [(194, .agg #[.int .i64 0, .slice none 0 0]), (196, .pointer (some ⟨b_1, 864, none⟩))] (by kernel_rfl) fun σ => ?_
     refine s_store (i := 0) (j := 0) (vs := [.int .i64 0, .slice none 0 0]) (l' := (([] : List Value) ++ (cs_360 ++ (([] : List Value) ++ (cs_362 ++ ([.int .i64 0, .slice none 0 0, .slice A_9 r_355.2.ctrl.length c_10, .slice A_12 r_355.2.fenced.length c_13, .int .i64 r_355.2.hold, .int .i64 r_355.2.held, .slice A_367 r_355.2.events.length c_368, .slice A_19 r_355.2.answers.length c_20, .int .i64 r_355.2.locs, .int .i64 r_355.2.base] : List Value)))))) hp_357 (tm rfl rfl) (tm rfl rfl) rfl Try.sizeOf67 rfl rfl rfl rfl (ble_len (lenA rfl (lenA (arr_len q_372 rfl) (lenA rfl (lenA (arr_len q_373 rfl) rfl)))) rfl) (segu 0 864 rfl (segu 64 800 (arr_len q_372 rfl) (segu 0 800 rfl (segu 800 0 (arr_len q_373 rfl) rfl)))) (fun w_379 hp_380 => ?_)
     refine k_nil ?_
     obtain rfl := Option.some.inj H
     exact ⟨{ r_355.2 with cmp := (⟨0, ([] : List Int)⟩ : selvageref16_Cell) }, _, cs_360, cs_362, none, 0, [], A_367, c_368, X_370, rfl, seenF ⟨rfl, trivial⟩, hp_380.pick [0, 4, 1] (by decide) rfl, q_372, q_373, Own.nil _ _ _ _, q_375, q_376, q_369, q_377⟩
    have H := iff_ h_336 H
    refine k_skip ?_
    obtain rfl := Option.some.inj H
    exact ⟨{ a0 with cmp := (⟨1, ([] : List Int)⟩ : selvageref16_Cell) }, _, cs_2, cs_4, none, 0, [], A_15, c_16, X_18, rfl, seenF ⟨rfl, trivial⟩, hp_332.pick [0, 4, 1] (by decide) rfl, q_38, q_39, Own.nil _ _ _ _, q_41, q_42, q_17, q_43⟩
   clear H
   rintro a w' ⟨s_335, σ_381, cs_385, cs_387, A_389, c_390, X_392, A_395, c_396, X_398, rfl, rfl, hp_382, q_386, q_388, q_391, q_393, q_394, q_397, q_399⟩
   have H := G_334
   refine k_region ?_
   refine sr tb hp_382 [(0, 0, 0)] 3 [(199, .pointer (some ⟨b_1, 868, none⟩))] (by kernel_rfl) fun σ => ?_
   refine s_store (i := 0) (j := 0) (vs := [.int .i64 (-1)]) (l' := (([] : List Value) ++ (cs_385 ++ (([] : List Value) ++ (cs_387 ++ ([.int .i64 s_335.cmp.N, .slice A_389 s_335.cmp.Hang.length c_390, .slice A_9 s_335.ctrl.length c_10, .slice A_12 s_335.fenced.length c_13, .int .i64 (-1), .int .i64 s_335.held, .slice A_395 s_335.events.length c_396, .slice A_19 s_335.answers.length c_20, .int .i64 s_335.locs, .int .i64 s_335.base] : List Value)))))) hp_382 (tm rfl rfl) rfl rfl Try.sizeOf3 rfl rfl rfl rfl (ble_len (lenA rfl (lenA (arr_len q_386 rfl) (lenA rfl (lenA (arr_len q_388 rfl) rfl)))) rfl) (segu 0 868 rfl (segu 64 804 (arr_len q_386 rfl) (segu 0 804 rfl (segu 800 4 (arr_len q_388 rfl) rfl)))) (fun w_400 hp_401 => ?_)
   refine k_nil ?_
   have hp_402 := Hp.pick (R' := [X_392, [(b_1, .cells (([] : List Value) ++ (cs_385 ++ (([] : List Value) ++ (cs_387 ++ ([.int .i64 s_335.cmp.N, .slice A_389 s_335.cmp.Hang.length c_390, .slice A_9 s_335.ctrl.length c_10, .slice A_12 s_335.fenced.length c_13, .int .i64 (-1), .int .i64 s_335.held, .slice A_395 s_335.events.length c_396, .slice A_19 s_335.answers.length c_20, .int .i64 s_335.locs, .int .i64 s_335.base] : List Value))))).toArray 71 (0, 0))], X_398]) [1, 0, 2] hp_401 (by decide) rfl
   have q_406 := (Own.any q_391).froze hp_402
   have ep_405 := ep_36.freeze hp_402
   have u_404 := hp_402.frozenUp
   have hp_403 := hp_402.freeze
   have q_408 := q_386.up u_404
   have q_409 := q_388.up u_404
   have q_410 := q_393.up u_404
   have q_411 := q_394.up u_404
   have q_412 := q_399.up u_404
   obtain rfl := Option.some.inj H
   exact ⟨{ s_335 with hold := (-1) }, _, (fun k => I_30 k ∨ On [X_392] k), w_400, cs_385, cs_387, A_389, c_390, A_395, c_396, X_398, A_19, c_20, rfl, seenF trivial, ep_405, hp_403, q_408, q_409, q_406, q_410, q_411, q_397, q_412⟩
  have H := iff_ h_330 H
  refine k_skip ?_
  obtain rfl := Option.some.inj H
  exact ⟨a0, _, I_30, w_28, cs_2, cs_4, A_6, c_7, A_15, c_16, X_18, A_19, c_20, rfl, seenF trivial, ep_36, hp_244.pick [0, 1] (by decide) rfl, q_38, q_39, q_40, q_41, q_42, q_17, q_43⟩
 clear H
 rintro a w' ⟨s_73, σ_416, I_419, w_420, cs_423, cs_425, A_427, c_428, A_432, c_433, X_435, A_436, c_437, rfl, rfl, ep_421, hp_417, q_424, q_426, q_429, q_430, q_431, q_434, q_438⟩
 have H := G_72
 refine kq tb hp_417 [] [(4, .int .i64 0)] (by kernel_rfl) fun σ => ?_
 refine k_ret ?_
 obtain rfl := Option.some.inj H
 exact k_end rfl (.tmp rfl rfl .nil) rfl ⟨_, cs_423, cs_425, A_427, c_428, A_432, c_433, X_435, A_436, c_437, rfl, (Reps.up q_424 (Hp.up hp_417)), (Reps.up q_426 (Hp.up hp_417)), (RdS.now q_429 hp_417), (RdS.now q_430 hp_417), (RdS.now q_431 hp_417), q_434, (RdS.now q_438 hp_417), (Ep.frz ep_421 (hp_417)), (hp_417).aft⟩

end Go.Proofs.Ytcnchjlomcafeaa.W

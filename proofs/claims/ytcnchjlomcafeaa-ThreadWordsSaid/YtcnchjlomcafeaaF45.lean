/- Functions of the program as plain Lean functions, and that the calls do what they say: written by w2.py. -/
import Derived.Test.YtcnchjlomcafeaaRun
import Derived.Test.YtcnchjlomcafeaaTy
import Derived.Test.YtcnchjlomcafeaaG4
set_option linter.unusedVariables false
set_option linter.unusedSimpArgs false
set_option linter.unusedSectionVars false
namespace Go.Proofs.Ytcnchjlomcafeaa.W
open Go Go.RowKit Go.Proofs.Ytcnchjlomcafeaa.B
attribute [local irreducible] Go.wpList Go.Code.wp Go.Region.wanted Go.yielded
/-! ### (*selvage/selvageref16.state).reckon: function 26 -/
def selvageref16_state_reckon.l0 (a1 : api_Inst) (x_158 : Int × Int) : Option ((Int × Int) ⊕ Int) :=
 if (decide (x_158.2 < a1.Imm)) = true then (some (Sum.inl (wrap64 (x_158.1 + x_158.1), wrap64 (x_158.2 + 1)))) else ((some x_158.1).map Sum.inr)
def selvageref16_state_reckon.m (a0 : selvageref16_state) (a1 : api_Inst) : Option selvageref16_state :=
 if 0 ≤ a1.A ∧ a1.A < (32 : Int) then (if 0 ≤ a1.B ∧ a1.B < (32 : Int) then ((if (decide (a1.A = 0)) = true then (some (0, ([] : List Int))) else (some ((vg a0.regs a1.A).N, (vg a0.regs a1.A).Hang)) : Option (Int × (List Int))).bind fun o_76 => (selvageref16_join.m ((vg a0.regs a1.A).Hang) ((vg a0.regs a1.B).Hang)).bind fun r_90 => (if (decide (a1.Op = 1)) = true then (if 0 ≤ a1.T ∧ a1.T < (32 : Int) then (some { a0 with regs := (vp a0.regs a1.T (⟨wrap64 (o_76.1 + a1.Imm), o_76.2⟩ : selvageref16_Cell)) }) else none) else (if (decide (a1.Op = 2)) = true then (if 0 ≤ a1.T ∧ a1.T < (32 : Int) then (some { a0 with regs := (vp a0.regs a1.T (⟨wrap64 (o_76.1 + (wrap64 (a1.Imm * 65536))), o_76.2⟩ : selvageref16_Cell)) }) else none) else (if (decide (a1.Op = 3)) = true then (if 0 ≤ a1.T ∧ a1.T < (32 : Int) then (some { a0 with regs := (vp a0.regs a1.T (⟨bits .or .i64 ((vg a0.regs a1.A).N) a1.Imm, (vg a0.regs a1.A).Hang⟩ : selvageref16_Cell)) }) else none) else (if (decide (a1.Op = 4)) = true then (if 0 ≤ a1.T ∧ a1.T < (32 : Int) then (some { a0 with regs := (vp a0.regs a1.T (⟨bits .or .i64 ((vg a0.regs a1.A).N) (wrap64 (a1.Imm * 65536)), (vg a0.regs a1.A).Hang⟩ : selvageref16_Cell)) }) else none) else (if (decide (a1.Op = 5)) = true then ((loop (selvageref16_state_reckon.l0 a1) ((vg a0.regs a1.A).N, 0) : Option Int).bind fun o_156 => if 0 ≤ a1.T ∧ a1.T < (32 : Int) then (some { a0 with regs := (vp a0.regs a1.T (⟨o_156, (vg a0.regs a1.A).Hang⟩ : selvageref16_Cell)) }) else none) else (if (decide (a1.Op = 6)) = true then (if 0 ≤ a1.T ∧ a1.T < (32 : Int) then (some { a0 with regs := (vp a0.regs a1.T (⟨wrap64 (((vg a0.regs a1.A).N) + ((vg a0.regs a1.B).N)), r_90⟩ : selvageref16_Cell)) }) else none) else (if (decide (a1.Op = 7)) = true then (if 0 ≤ a1.T ∧ a1.T < (32 : Int) then (some { a0 with regs := (vp a0.regs a1.T (⟨wrap64 (((vg a0.regs a1.B).N) - ((vg a0.regs a1.A).N)), r_90⟩ : selvageref16_Cell)) }) else none) else (if (decide (a1.Op = 8)) = true then (if 0 ≤ a1.T ∧ a1.T < (32 : Int) then (some { a0 with regs := (vp a0.regs a1.T (⟨wrap64 (((vg a0.regs a1.A).N) * ((vg a0.regs a1.B).N)), r_90⟩ : selvageref16_Cell)) }) else none) else (if (decide (a1.Op = 9)) = true then ((if (decide (((vg a0.regs a1.B).N) = (-1))) = true then (some (wrap64 (0 - ((vg a0.regs a1.A).N)))) else (if (!decide (((vg a0.regs a1.B).N) = 0)) = true then (if ((vg a0.regs a1.B).N) ≠ 0 then (some (wrap64 (Int.tdiv ((vg a0.regs a1.A).N) ((vg a0.regs a1.B).N)))) else none) else (some 0)) : Option Int).bind fun o_275 => if 0 ≤ a1.T ∧ a1.T < (32 : Int) then (some { a0 with regs := (vp a0.regs a1.T (⟨o_275, r_90⟩ : selvageref16_Cell)) }) else none) else (if (decide (a1.Op = 16)) = true then (some { a0 with cmp := (⟨(selvageref16_sign.m ((vg a0.regs a1.A).N) ((vg a0.regs a1.B).N)), r_90⟩ : selvageref16_Cell) }) else (if (decide (a1.Op = 17)) = true then (some { a0 with cmp := (⟨(selvageref16_sign.m ((vg a0.regs a1.A).N) a1.Imm), (vg a0.regs a1.A).Hang⟩ : selvageref16_Cell) }) else (some a0))))))))))))) else none) else none
set_option maxHeartbeats 4000000 in
set_option maxRecDepth 100000 in
theorem selvageref16_state_reckon.calls (a0 : selvageref16_state) (b_1 : Nat) (cs_2 : List Value) (cs_4 : List Value) (A_6 : Option Addr) (c_7 : Nat) (A_9 : Option Addr) (c_10 : Nat) (A_12 : Option Addr) (c_13 : Nat) (A_15 : Option Addr) (c_16 : Nat) (X_18 : Rsc) (A_19 : Option Addr) (c_20 : Nat) (a1 : api_Inst) (r : selvageref16_state) (w : World) (F : Nat → Prop) (hF : ∀ k, F k → Off w [[(b_1, .cells (([] : List Value) ++ (cs_2 ++ (([] : List Value) ++ (cs_4 ++ ([.int .i64 a0.cmp.N, .slice A_6 a0.cmp.Hang.length c_7, .slice A_9 a0.ctrl.length c_10, .slice A_12 a0.fenced.length c_13, .int .i64 a0.hold, .int .i64 a0.held, .slice A_15 a0.events.length c_16, .slice A_19 a0.answers.length c_20, .int .i64 a0.locs, .int .i64 a0.base] : List Value))))).toArray 71 (0, 0))], X_18] k) (hX : Have w [[(b_1, .cells (([] : List Value) ++ (cs_2 ++ (([] : List Value) ++ (cs_4 ++ ([.int .i64 a0.cmp.N, .slice A_6 a0.cmp.Hang.length c_7, .slice A_9 a0.ctrl.length c_10, .slice A_12 a0.fenced.length c_13, .int .i64 a0.hold, .int .i64 a0.held, .slice A_15 a0.events.length c_16, .slice A_19 a0.answers.length c_20, .int .i64 a0.locs, .int .i64 a0.base] : List Value))))).toArray 71 (0, 0))], X_18]) (q_3 : Reps selvageref16_Cell_E F w a0.regs.toList cs_2) (q_5 : Reps selvageref16_Cell_E F w a0.stack.toList cs_4) (q_8 : RdS (intE .i64) F w A_6 c_7 a0.cmp.Hang) (q_11 : RdS (intE .i64) F w A_9 c_10 a0.ctrl) (q_14 : RdS (intE .i64) F w A_12 c_13 a0.fenced) (q_17 : Own api_Event_E no wz 33 A_15 c_16 a0.events X_18) (q_21 : RdS (intE .i64) F w A_19 c_20 a0.answers) (H : selvageref16_state_reckon.m a0 a1 = some r) :
 Ret Try.prog 26 [.pointer (some ⟨b_1, 0, none⟩), .agg #[.int .i64 a1.Op, .int .i64 a1.T, .int .i64 a1.A, .int .i64 a1.B, .int .i64 a1.Imm]] w fun v w' => ∃ (I_ : Nat → Prop) (cs_1348 : List Value) (cs_1350 : List Value) (A_1352 : Option Addr) (c_1353 : Nat) (X_1358 : Rsc), v = .tuple #[] ∧ Reps selvageref16_Cell_E I_ w' r.regs.toList cs_1348 ∧ Reps selvageref16_Cell_E I_ w' r.stack.toList cs_1350 ∧ RdS (intE .i64) I_ w' A_1352 c_1353 r.cmp.Hang ∧ RdS (intE .i64) I_ w' A_9 c_10 r.ctrl ∧ RdS (intE .i64) I_ w' A_12 c_13 r.fenced ∧ Own api_Event_E no wz 33 A_15 c_16 r.events X_1358 ∧ RdS (intE .i64) I_ w' A_19 c_20 r.answers ∧ Frz F [[(b_1, .cells (([] : List Value) ++ (cs_2 ++ (([] : List Value) ++ (cs_4 ++ ([.int .i64 a0.cmp.N, .slice A_6 a0.cmp.Hang.length c_7, .slice A_9 a0.ctrl.length c_10, .slice A_12 a0.fenced.length c_13, .int .i64 a0.hold, .int .i64 a0.held, .slice A_15 a0.events.length c_16, .slice A_19 a0.answers.length c_20, .int .i64 a0.locs, .int .i64 a0.base] : List Value))))).toArray 71 (0, 0))], X_18] w I_ w' [[(b_1, .cells (([] : List Value) ++ (cs_1348 ++ (([] : List Value) ++ (cs_1350 ++ ([.int .i64 r.cmp.N, .slice A_1352 r.cmp.Hang.length c_1353, .slice A_9 r.ctrl.length c_10, .slice A_12 r.fenced.length c_13, .int .i64 r.hold, .int .i64 r.held, .slice A_15 r.events.length c_16, .slice A_19 r.answers.length c_20, .int .i64 r.locs, .int .i64 r.base] : List Value))))).toArray 71 (0, 0))], X_1358] ∧ Aft w w' [[(b_1, .cells (([] : List Value) ++ (cs_2 ++ (([] : List Value) ++ (cs_4 ++ ([.int .i64 a0.cmp.N, .slice A_6 a0.cmp.Hang.length c_7, .slice A_9 a0.ctrl.length c_10, .slice A_12 a0.fenced.length c_13, .int .i64 a0.hold, .int .i64 a0.held, .slice A_15 a0.events.length c_16, .slice A_19 a0.answers.length c_20, .int .i64 a0.locs, .int .i64 a0.base] : List Value))))).toArray 71 (0, 0))], X_18] [[(b_1, .cells (([] : List Value) ++ (cs_1348 ++ (([] : List Value) ++ (cs_1350 ++ ([.int .i64 r.cmp.N, .slice A_1352 r.cmp.Hang.length c_1353, .slice A_9 r.ctrl.length c_10, .slice A_12 r.fenced.length c_13, .int .i64 r.hold, .int .i64 r.held, .slice A_15 r.events.length c_16, .slice A_19 r.answers.length c_20, .int .i64 r.locs, .int .i64 r.base] : List Value))))).toArray 71 (0, 0))], X_1358] := by
 unfold selvageref16_state_reckon.m at H
 have hp0 := Hp.startR hX hF
 have ep0 := Ep.refl F [[(b_1, .cells (([] : List Value) ++ (cs_2 ++ (([] : List Value) ++ (cs_4 ++ ([.int .i64 a0.cmp.N, .slice A_6 a0.cmp.Hang.length c_7, .slice A_9 a0.ctrl.length c_10, .slice A_12 a0.fenced.length c_13, .int .i64 a0.hold, .int .i64 a0.held, .slice A_15 a0.events.length c_16, .slice A_19 a0.answers.length c_20, .int .i64 a0.locs, .int .i64 a0.base] : List Value))))).toArray 71 (0, 0))], X_18] w
 refine enter (L := [(0, .pointer (some ⟨b_1, 0, none⟩)), (1, .agg #[.int .i64 a1.Op, .int .i64 a1.T, .int .i64 a1.A, .int .i64 a1.B, .int .i64 a1.Imm])]) Try.func26 rfl Try.ntmps26 rfl rfl ?_
 refine k_seq ?_
 refine k_region ?_
 refine s_box (l := [.int .i64 a1.Op, .int .i64 a1.T, .int .i64 a1.A, .int .i64 a1.B, .int .i64 a1.Imm]) hp0 (tm rfl rfl) rfl rfl (fun b_22 w_23 hp_24 => ?_)
 refine k_nil ?_
 refine k_seq ?_
 refine k_anyF [[0, 1, 2], [0, 1, 2], [0, 1, 2], [0, 1, 2], [0, 1, 2], [0, 1, 2], [0, 1, 2], [0, 1, 2], [0, 1, 2], [0, 1, 2], [0, 1, 2], [0, 1, 2], [0, 1, 2], [0, 1, 2], [0, 1, 2], [0, 1, 2], [0, 1, 2], [0, 1, 2], [0, 1, 2], [0, 1, 2], [0, 1, 2]] [0, 0, 2, 1, 9, 31, 63, 0, 0, 256, 128, 1152, 3968, 8064, 0, 16384, 0, 0, 196735, 475135, 1048575] mixed hp_24 21 (by kernel_rfl) (fun w_25 hp_26 => ?_)
 obtain ⟨g_27, H⟩ := grd H
 obtain ⟨cs_32, rp_31, q_33⟩ := arr_elem q_3 g_27
 obtain ⟨A_28, c_29, rfl, q_30⟩ := rp_31
 obtain ⟨g_34, H⟩ := grd H
 obtain ⟨cs_39, rp_38, q_40⟩ := arr_elem q_3 g_34
 obtain ⟨A_35, c_36, rfl, q_37⟩ := rp_38
 refine w_takes (f := 5) tb [0, 1, 2] (Wp.of hp_26 [0, 1, 2] rfl) [⟨_, _, [0], fun w h => arr_at (pre := ([] : List Value)) (post := ([] : List Value) ++ (cs_4 ++ ([.int .i64 a0.cmp.N, .slice A_6 a0.cmp.Hang.length c_7, .slice A_9 a0.ctrl.length c_10, .slice A_12 a0.fenced.length c_13, .int .i64 a0.hold, .int .i64 a0.held, .slice A_15 a0.events.length c_16, .slice A_19 a0.answers.length c_20, .int .i64 a0.locs, .int .i64 a0.base] : List Value))) (h.get (i := 0) (j := 0) rfl rfl) rfl rfl q_33⟩, ⟨_, _, [0], fun w h => arr_at (pre := ([] : List Value)) (post := ([] : List Value) ++ (cs_4 ++ ([.int .i64 a0.cmp.N, .slice A_6 a0.cmp.Hang.length c_7, .slice A_9 a0.ctrl.length c_10, .slice A_12 a0.fenced.length c_13, .int .i64 a0.hold, .int .i64 a0.held, .slice A_15 a0.events.length c_16, .slice A_19 a0.answers.length c_20, .int .i64 a0.locs, .int .i64 a0.base] : List Value))) (h.get (i := 0) (j := 0) rfl rfl) rfl rfl q_40⟩] [.a 17 3 b_1 0 _ _ g_27, .a 24 4 b_1 0 _ _ g_34] [] [(0, 0, 0), (3, 2, 0)] [] [0, 1, 3, 4, 7, 8, 10, 11, 14, 2, 5, 6, 9, 12, 13, 15] 65535 [(18, .agg #[.int .i64 ((vg a0.regs a1.A).N), .slice A_28 ((vg a0.regs a1.A).Hang).length c_29]), (25, .agg #[.int .i64 ((vg a0.regs a1.B).N), .slice A_35 ((vg a0.regs a1.B).Hang).length c_36]), (27, .int .i64 a1.Imm)] (fun _ => (po_then po_body)) rfl rfl (by kernel_rfl) fun σ => ?_
 refine seenW [(0, .pointer (some ⟨b_1, 0, none⟩)), (3, .pointer (some ⟨b_22, 0, none⟩)), (18, .agg #[.int .i64 ((vg a0.regs a1.A).N), .slice A_28 ((vg a0.regs a1.A).Hang).length c_29]), (25, .agg #[.int .i64 ((vg a0.regs a1.B).N), .slice A_35 ((vg a0.regs a1.B).Hang).length c_36]), (27, .int .i64 a1.Imm)] ⟨rfl, rfl, rfl, rfl, rfl, trivial⟩ ?_
 refine w_par (m' := 262143) (fun fl_ gb_ gx_ w_ => Hp (On [[(b_1, .cells (([] : List Value) ++ (cs_2 ++ (([] : List Value) ++ (cs_4 ++ ([.int .i64 a0.cmp.N, .slice A_6 a0.cmp.Hang.length c_7, .slice A_9 a0.ctrl.length c_10, .slice A_12 a0.fenced.length c_13, .int .i64 a0.hold, .int .i64 a0.held, .slice A_15 a0.events.length c_16, .slice A_19 a0.answers.length c_20, .int .i64 a0.locs, .int .i64 a0.base] : List Value))))).toArray 71 (0, 0))], X_18]) F w w w_ [[(b_1, .cells (([] : List Value) ++ (cs_2 ++ (([] : List Value) ++ (cs_4 ++ ([.int .i64 a0.cmp.N, .slice A_6 a0.cmp.Hang.length c_7, .slice A_9 a0.ctrl.length c_10, .slice A_12 a0.fenced.length c_13, .int .i64 a0.hold, .int .i64 a0.held, .slice A_15 a0.events.length c_16, .slice A_19 a0.answers.length c_20, .int .i64 a0.locs, .int .i64 a0.base] : List Value))))).toArray 71 (0, 0))], X_18, [(b_22, .cells #[.int .i64 a1.Op, .int .i64 a1.T, .int .i64 a1.A, .int .i64 a1.B, .int .i64 a1.Imm] 44 (0, 0))], bif fl_ 16 then [(gb_ 16, .cells #[.int .i64 0, .slice none 0 0] 67 (0, 0))] else [], bif fl_ 17 then [(gb_ 17, .cells #[.int .i64 0, .slice none 0 0] 67 (0, 0))] else []]) [⟨16, some 4, fun b X v => v = .pointer (some ⟨b, 0, none⟩)⟩, ⟨17, some 5, fun b X v => v = .pointer (some ⟨b, 0, none⟩)⟩] ?_ [16, 17] rfl 2 rfl (by kernel_rfl) rfl (by kernel_rfl) (by kernel_rfl) (by kernel_rfl) (by kernel_rfl) (by kernel_rfl) (Hp.cong (hp_26.pick [0, 1, 2, 3, 4] (by decide) rfl) (by kernel_rfl)) ?_ ?_
 ·intro i hi_ fl_ gb_ gx_ w_ hf_ hj_
  simp only [List.map_cons, List.map_nil, List.mem_cons, List.not_mem_nil, or_false] at hi_
  rcases hi_ with rfl | rfl
  ·exact Wp.of hj_ [0, 1, 2] rfl
  ·exact Wp.of hj_ [0, 1, 2] rfl
 ·refine .cons [] [] [] rfl rfl rfl (by kernel_rfl) (by kernel_rfl) (by kernel_rfl) ?_ ?_
  ·rintro σ_41 fl_ gb_ gx_ w_42 hj_43 f_44 - - -
   have hp_45 : Hp (On [[(b_1, .cells (([] : List Value) ++ (cs_2 ++ (([] : List Value) ++ (cs_4 ++ ([.int .i64 a0.cmp.N, .slice A_6 a0.cmp.Hang.length c_7, .slice A_9 a0.ctrl.length c_10, .slice A_12 a0.fenced.length c_13, .int .i64 a0.hold, .int .i64 a0.held, .slice A_15 a0.events.length c_16, .slice A_19 a0.answers.length c_20, .int .i64 a0.locs, .int .i64 a0.base] : List Value))))).toArray 71 (0, 0))], X_18]) F w w w_42 [[(b_1, .cells (([] : List Value) ++ (cs_2 ++ (([] : List Value) ++ (cs_4 ++ ([.int .i64 a0.cmp.N, .slice A_6 a0.cmp.Hang.length c_7, .slice A_9 a0.ctrl.length c_10, .slice A_12 a0.fenced.length c_13, .int .i64 a0.hold, .int .i64 a0.held, .slice A_15 a0.events.length c_16, .slice A_19 a0.answers.length c_20, .int .i64 a0.locs, .int .i64 a0.base] : List Value))))).toArray 71 (0, 0))], X_18, [(b_22, .cells #[.int .i64 a1.Op, .int .i64 a1.T, .int .i64 a1.A, .int .i64 a1.B, .int .i64 a1.Imm] 44 (0, 0))], bif fl_ 16 then [(gb_ 16, .cells #[.int .i64 0, .slice none 0 0] 67 (0, 0))] else [], bif fl_ 17 then [(gb_ 17, .cells #[.int .i64 0, .slice none 0 0] 67 (0, 0))] else []] := hj_43
   refine s_alloc (zv := .agg #[.int .i64 0, .slice none 0 0]) (l := [.int .i64 0, .slice none 0 0]) hp_45 (by intro w_; kernel_rfl) rfl rfl (fun b_46 w_47 hp_48 => ?_)
   refine k_nil ?_
   refine ⟨_, b_46, [], rfl, ?_, rfl⟩
   exact Hp.cong (hp_48.pick [0, 1, 2, 5, 4] (by decide) rfl) (by kernel_rfl)
  refine .cons [] [] [] rfl rfl rfl (by kernel_rfl) (by kernel_rfl) (by kernel_rfl) ?_ ?_
  ·rintro σ_49 fl_ gb_ gx_ w_50 hj_51 f_52 - - -
   have hp_53 : Hp (On [[(b_1, .cells (([] : List Value) ++ (cs_2 ++ (([] : List Value) ++ (cs_4 ++ ([.int .i64 a0.cmp.N, .slice A_6 a0.cmp.Hang.length c_7, .slice A_9 a0.ctrl.length c_10, .slice A_12 a0.fenced.length c_13, .int .i64 a0.hold, .int .i64 a0.held, .slice A_15 a0.events.length c_16, .slice A_19 a0.answers.length c_20, .int .i64 a0.locs, .int .i64 a0.base] : List Value))))).toArray 71 (0, 0))], X_18]) F w w w_50 [[(b_1, .cells (([] : List Value) ++ (cs_2 ++ (([] : List Value) ++ (cs_4 ++ ([.int .i64 a0.cmp.N, .slice A_6 a0.cmp.Hang.length c_7, .slice A_9 a0.ctrl.length c_10, .slice A_12 a0.fenced.length c_13, .int .i64 a0.hold, .int .i64 a0.held, .slice A_15 a0.events.length c_16, .slice A_19 a0.answers.length c_20, .int .i64 a0.locs, .int .i64 a0.base] : List Value))))).toArray 71 (0, 0))], X_18, [(b_22, .cells #[.int .i64 a1.Op, .int .i64 a1.T, .int .i64 a1.A, .int .i64 a1.B, .int .i64 a1.Imm] 44 (0, 0))], bif fl_ 16 then [(gb_ 16, .cells #[.int .i64 0, .slice none 0 0] 67 (0, 0))] else [], bif fl_ 17 then [(gb_ 17, .cells #[.int .i64 0, .slice none 0 0] 67 (0, 0))] else []] := hj_51
   refine s_alloc (zv := .agg #[.int .i64 0, .slice none 0 0]) (l := [.int .i64 0, .slice none 0 0]) hp_53 (by intro w_; kernel_rfl) rfl rfl (fun b_54 w_55 hp_56 => ?_)
   refine k_nil ?_
   refine ⟨_, b_54, [], rfl, ?_, rfl⟩
   exact Hp.cong (hp_56.pick [0, 1, 2, 3, 5] (by decide) rfl) (by kernel_rfl)
  exact .nil
 rintro σ_57 gb_61 gx_62 w_58 hj_59 ⟨f_65, f_66, -⟩
 have hp_60 := Hp.cong (R' := [[(b_1, .cells (([] : List Value) ++ (cs_2 ++ (([] : List Value) ++ (cs_4 ++ ([.int .i64 a0.cmp.N, .slice A_6 a0.cmp.Hang.length c_7, .slice A_9 a0.ctrl.length c_10, .slice A_12 a0.fenced.length c_13, .int .i64 a0.hold, .int .i64 a0.held, .slice A_15 a0.events.length c_16, .slice A_19 a0.answers.length c_20, .int .i64 a0.locs, .int .i64 a0.base] : List Value))))).toArray 71 (0, 0))], X_18, [(b_22, .cells #[.int .i64 a1.Op, .int .i64 a1.T, .int .i64 a1.A, .int .i64 a1.B, .int .i64 a1.Imm] 44 (0, 0))], [(gb_61 16, .cells #[.int .i64 0, .slice none 0 0] 67 (0, 0))], [(gb_61 17, .cells #[.int .i64 0, .slice none 0 0] 67 (0, 0))]]) hj_59 (by kernel_rfl)
 refine seenW [(4, .pointer (some ⟨(gb_61 16), 0, none⟩)), (5, .pointer (some ⟨(gb_61 17), 0, none⟩)), (0, .pointer (some ⟨b_1, 0, none⟩)), (3, .pointer (some ⟨b_22, 0, none⟩)), (18, .agg #[.int .i64 ((vg a0.regs a1.A).N), .slice A_28 ((vg a0.regs a1.A).Hang).length c_29]), (25, .agg #[.int .i64 ((vg a0.regs a1.B).N), .slice A_35 ((vg a0.regs a1.B).Hang).length c_36]), (27, .int .i64 a1.Imm)] ?_ ?_
 ·exact ⟨f_65, f_66, rfl, rfl, rfl, rfl, rfl, trivial⟩
 refine w_one (m' := 524287) 18 rfl (by kernel_rfl) (by kernel_rfl) ?_
 refine s_store (i := 3) (j := 0) (vs := [.int .i64 ((vg a0.regs a1.A).N), .slice A_28 ((vg a0.regs a1.A).Hang).length c_29]) (l' := [.int .i64 ((vg a0.regs a1.A).N), .slice A_28 ((vg a0.regs a1.A).Hang).length c_29]) hp_60 (tm rfl rfl) (tm rfl rfl) rfl Try.sizeOf67 rfl rfl rfl rfl rfl rfl (fun w_67 hp_68 => ?_)
 refine k_nil ?_
 refine ⟨(Wp.of hp_68 [0, 1, 2] rfl), ?_⟩
 refine w_one (m' := 1048575) 19 rfl (by kernel_rfl) (by kernel_rfl) ?_
 refine s_store (i := 4) (j := 0) (vs := [.int .i64 ((vg a0.regs a1.B).N), .slice A_35 ((vg a0.regs a1.B).Hang).length c_36]) (l' := [.int .i64 ((vg a0.regs a1.B).N), .slice A_35 ((vg a0.regs a1.B).Hang).length c_36]) hp_68 (tm rfl rfl) (tm rfl rfl) rfl Try.sizeOf67 rfl rfl rfl rfl rfl rfl (fun w_69 hp_70 => ?_)
 refine k_nil ?_
 refine ⟨(Wp.of hp_70 [0, 1, 2] rfl), ?_⟩
 refine w_take (m' := 2097151) (v := .int .i64 a1.Imm) 20 rfl rfl (by kernel_rfl) (by kernel_rfl) (by kernel_rfl) (by kernel_rfl) (by kernel_rfl) (by kernel_rfl) (by kernel_rfl) (po_then po_body) (Wp.of hp_70 [0, 1, 2] rfl) (y_val (fun w_ hW_ => e_assign (tm rfl rfl))) ?_
 refine w_done (by kernel_rfl) ?_
 refine k_seq ?_
 refine k_region ?_
 refine sv (v := .agg #[.int .i64 ((vg a0.regs a1.A).N), .slice A_28 ((vg a0.regs a1.A).Hang).length c_29]) rfl rfl rfl (e_loadA (tm rfl rfl) Try.isAgg67 Try.sizeOf67 rfl (cells_box (sz := 2) (hp_70.get (i := 3) (j := 0) rfl rfl) rfl)) ?_
 refine s_alloc (zv := .agg #[.int .i64 0, .slice none 0 0]) (l := [.int .i64 0, .slice none 0 0]) hp_70 (by intro w_; kernel_rfl) rfl rfl (fun b_71 w_72 hp_73 => ?_)
 refine s_store (i := 5) (j := 0) (vs := [.int .i64 ((vg a0.regs a1.A).N), .slice A_28 ((vg a0.regs a1.A).Hang).length c_29]) (l' := [.int .i64 ((vg a0.regs a1.A).N), .slice A_28 ((vg a0.regs a1.A).Hang).length c_29]) hp_73 (tm rfl rfl) (tm rfl rfl) rfl Try.sizeOf67 rfl rfl rfl rfl rfl rfl (fun w_74 hp_75 => ?_)
 refine k_nil ?_
 refine k_seq ?_
 refine kq tb hp_75 [(3, 2, 0)] [(31, .bool (decide (a1.A = 0)))] (by kernel_rfl) fun σ => ?_
 obtain ⟨o_76, H, G_77⟩ := bindSome H
 refine k_cut (fun a w' => ∃ (σ_348 : Nat → Value) (A_352 : Option Addr) (c_353 : Nat), a = st 219 [(0, .pointer (some ⟨b_1, 0, none⟩)), (3, .pointer (some ⟨b_22, 0, none⟩)), (4, .pointer (some ⟨(gb_61 16), 0, none⟩)), (5, .pointer (some ⟨(gb_61 17), 0, none⟩)), (6, .int .i64 a1.Imm), (7, .pointer (some ⟨b_71, 0, none⟩))] σ_348 [] ∧ Hp (On [[(b_1, .cells (([] : List Value) ++ (cs_2 ++ (([] : List Value) ++ (cs_4 ++ ([.int .i64 a0.cmp.N, .slice A_6 a0.cmp.Hang.length c_7, .slice A_9 a0.ctrl.length c_10, .slice A_12 a0.fenced.length c_13, .int .i64 a0.hold, .int .i64 a0.held, .slice A_15 a0.events.length c_16, .slice A_19 a0.answers.length c_20, .int .i64 a0.locs, .int .i64 a0.base] : List Value))))).toArray 71 (0, 0))], X_18]) F w w w' [[(b_1, .cells (([] : List Value) ++ (cs_2 ++ (([] : List Value) ++ (cs_4 ++ ([.int .i64 a0.cmp.N, .slice A_6 a0.cmp.Hang.length c_7, .slice A_9 a0.ctrl.length c_10, .slice A_12 a0.fenced.length c_13, .int .i64 a0.hold, .int .i64 a0.held, .slice A_15 a0.events.length c_16, .slice A_19 a0.answers.length c_20, .int .i64 a0.locs, .int .i64 a0.base] : List Value))))).toArray 71 (0, 0))], X_18, [(b_22, .cells #[.int .i64 a1.Op, .int .i64 a1.T, .int .i64 a1.A, .int .i64 a1.B, .int .i64 a1.Imm] 44 (0, 0))], [((gb_61 16), .cells #[.int .i64 ((vg a0.regs a1.A).N), .slice A_28 ((vg a0.regs a1.A).Hang).length c_29] 67 (0, 0))], [((gb_61 17), .cells #[.int .i64 ((vg a0.regs a1.B).N), .slice A_35 ((vg a0.regs a1.B).Hang).length c_36] 67 (0, 0))], [(b_71, .cells #[.int .i64 o_76.1, .slice A_352 o_76.2.length c_353] 67 (0, 0))]] ∧ RdS (intE .i64) F w A_352 c_353 o_76.2) ?_ ?_
 ·refine k_if (tm rfl rfl) (fun h_78 => ?_) (fun h_78 => ?_)
  ·have H := ift h_78 H
   refine k_region ?_
   refine sv (v := .agg #[.int .i64 0, .slice none 0 0]) rfl rfl rfl (e_build (vs := []) (cs := [.int .i64 0, .slice none 0 0]) .nil (by kernel_rfl)) ?_
   refine s_store (i := 5) (j := 0) (vs := [.int .i64 0, .slice none 0 0]) (l' := [.int .i64 0, .slice none 0 0]) hp_75 (tm rfl rfl) (tm rfl rfl) rfl Try.sizeOf67 rfl rfl rfl rfl rfl rfl (fun w_79 hp_80 => ?_)
   refine k_nil ?_
   obtain rfl := Option.some.inj H
   exact ⟨_, none, 0, seenF ⟨rfl, rfl, rfl, rfl, rfl, rfl, trivial⟩, hp_80, (RdS.nil _ _)⟩
  have H := iff_ h_78 H
  refine k_skip ?_
  obtain rfl := Option.some.inj H
  exact ⟨_, A_28, c_29, seenF ⟨rfl, rfl, rfl, rfl, rfl, rfl, trivial⟩, hp_75, q_30⟩
 clear H
 rintro a w' ⟨σ_81, A_85, c_86, rfl, hp_82, q_87⟩
 have H := G_77
 refine k_seq ?_
 refine k_region ?_
 refine sr tb hp_82 [(4, 3, 0), (5, 4, 0)] 4 [(34, .slice A_28 ((vg a0.regs a1.A).Hang).length c_29), (36, .slice A_35 ((vg a0.regs a1.B).Hang).length c_36)] (by kernel_rfl) fun σ => ?_
 obtain ⟨r_90, hx_89, H⟩ := bindSome H
 refine s_call (.cons (tm rfl rfl) (.cons (tm rfl rfl) .nil)) Try.call25 (selvageref16_join.calls ((vg a0.regs a1.A).Hang) A_28 c_29 ((vg a0.regs a1.B).Hang) A_35 c_36 r_90 _ _ (Hp.offCov hp_82 [] [[(b_1, .cells (([] : List Value) ++ (cs_2 ++ (([] : List Value) ++ (cs_4 ++ ([.int .i64 a0.cmp.N, .slice A_6 a0.cmp.Hang.length c_7, .slice A_9 a0.ctrl.length c_10, .slice A_12 a0.fenced.length c_13, .int .i64 a0.hold, .int .i64 a0.held, .slice A_15 a0.events.length c_16, .slice A_19 a0.answers.length c_20, .int .i64 a0.locs, .int .i64 a0.base] : List Value))))).toArray 71 (0, 0))], X_18, [(b_22, .cells #[.int .i64 a1.Op, .int .i64 a1.T, .int .i64 a1.A, .int .i64 a1.B, .int .i64 a1.Imm] 44 (0, 0))], [((gb_61 16), .cells #[.int .i64 ((vg a0.regs a1.A).N), .slice A_28 ((vg a0.regs a1.A).Hang).length c_29] 67 (0, 0))], [((gb_61 17), .cells #[.int .i64 ((vg a0.regs a1.B).N), .slice A_35 ((vg a0.regs a1.B).Hang).length c_36] 67 (0, 0))], [(b_71, .cells #[.int .i64 o_76.1, .slice A_85 o_76.2.length c_86] 67 (0, 0))]] rfl) (RdS.pass q_30 hp_82) (RdS.pass q_37 hp_82) hx_89) rfl ?_
 rintro v_ w_91 ⟨A_95, c_96, X_98, rfl, q_97, af_94⟩
 have hp_92 := Hp.callA af_94 hp_82
 refine sv (v := .slice A_95 r_90.length c_96) rfl rfl rfl (e_assign (tm rfl rfl)) ?_
 refine k_nil ?_
 refine kq tb hp_92 [(3, 3, 0)] [(39, .int .i64 a1.Op)] (by kernel_rfl) fun σ => ?_
 refine k_block ?_
 refine kq tb hp_92 [] [(40, .bool (decide (a1.Op = 1)))] (by kernel_rfl) fun σ => ?_
 refine k_if (tm rfl rfl) (fun h_99 => ?_) (fun h_99 => ?_)
 ·have H := ift h_99 H
  refine k_anyF [[0, 1, 2, 3, 4, 5, 6], [0, 1, 2, 3, 4, 5, 6], [0, 1, 2, 3, 4, 5, 6], [0, 1, 2, 3, 4, 5, 6], [0, 1, 2, 3, 4, 5, 6], [0, 1, 2, 3, 4, 5, 6], [0, 1, 2, 3, 4, 5, 6], [0, 1, 2, 3, 4, 5, 6], [0, 1, 2, 3, 4, 5, 6], [0, 1, 2, 3, 4, 5, 6], [0, 1, 2, 3, 4, 5, 6], [0, 1, 2, 3, 4, 5, 6], [0, 1, 2, 3, 4, 5, 6], [0, 2, 3, 4, 5, 6]] [0, 0, 2, 0, 8, 0, 56, 0, 128, 504, 1, 1025, 4095, 8191] mixed hp_92 14 (by kernel_rfl) (fun w_100 hp_101 => ?_)
  obtain ⟨g_102, H⟩ := grd H
  obtain ⟨cs_107, rp_106, q_108⟩ := arr_elem q_3 g_102
  obtain ⟨A_103, c_104, rfl, q_105⟩ := rp_106
  refine w_takes (f := 1) tb [0, 1, 2, 3, 4, 5, 6] (Wp.of hp_101 [0, 1, 2, 3, 4, 5, 6] rfl) [⟨_, _, [1], fun w h => arr_at (pre := ([] : List Value)) (post := ([] : List Value) ++ (cs_4 ++ ([.int .i64 a0.cmp.N, .slice A_6 a0.cmp.Hang.length c_7, .slice A_9 a0.ctrl.length c_10, .slice A_12 a0.fenced.length c_13, .int .i64 a0.hold, .int .i64 a0.held, .slice A_15 a0.events.length c_16, .slice A_19 a0.answers.length c_20, .int .i64 a0.locs, .int .i64 a0.base] : List Value))) (h.get (i := 1) (j := 0) rfl rfl) rfl rfl q_108⟩] [.a 54 7 b_1 0 _ _ g_102] [] [(0, 1, 0), (3, 3, 0), (7, 6, 0)] [] [0, 1, 3, 5, 7, 10, 11, 2, 4, 6, 8, 9, 12] 8191 [(51, .agg #[.int .i64 (wrap64 (o_76.1 + a1.Imm)), .slice A_85 o_76.2.length c_86]), (54, .pointer (some ⟨b_1, 0 + (a1.T : Int).toNat * 2, none⟩))] (fun _ => (po_then (po_x po_body))) rfl rfl (by kernel_rfl) fun σ => ?_
  refine w_one (m' := 16383) 13 rfl (by kernel_rfl) (by kernel_rfl) ?_
  refine s_storeA (E := selvageref16_Cell_E) (i := a1.T) (inn := 0) (r := 1) (el := (⟨wrap64 (o_76.1 + a1.Imm), o_76.2⟩ : selvageref16_Cell)) (vs := [.int .i64 (wrap64 (o_76.1 + a1.Imm)), .slice A_85 o_76.2.length c_86]) (pre := ([] : List Value)) (post := ([] : List Value) ++ (cs_4 ++ ([.int .i64 a0.cmp.N, .slice A_6 a0.cmp.Hang.length c_7, .slice A_9 a0.ctrl.length c_10, .slice A_12 a0.fenced.length c_13, .int .i64 a0.hold, .int .i64 a0.held, .slice A_15 a0.events.length c_16, .slice A_19 a0.answers.length c_20, .int .i64 a0.locs, .int .i64 a0.base] : List Value))) (fun q_ => (([] : List Value) ++ (q_ ++ (([] : List Value) ++ (cs_4 ++ ([.int .i64 a0.cmp.N, .slice A_6 a0.cmp.Hang.length c_7, .slice A_9 a0.ctrl.length c_10, .slice A_12 a0.fenced.length c_13, .int .i64 a0.hold, .int .i64 a0.held, .slice A_15 a0.events.length c_16, .slice A_19 a0.answers.length c_20, .int .i64 a0.locs, .int .i64 a0.base] : List Value)))))) hp_101 (tm rfl rfl) (tm rfl rfl) rfl Try.sizeOf67 rfl rfl rfl rfl (fun _ => rfl) rfl q_3 g_102 rfl q_108 ⟨A_85, c_86, rfl, q_87⟩ (fun w_109 cs_111 hp_110 q_112 => ?_)
  refine k_nil ?_
  refine ⟨(Wp.of hp_110 [0, 2, 3, 4, 5, 6] rfl), ?_⟩
  refine w_done (by kernel_rfl) ?_
  obtain rfl := Option.some.inj H
  exact k_endn rfl .nil rfl ⟨_, cs_111, cs_4, A_6, c_7, X_18, rfl, (Reps.up q_112 (Hp.up hp_110)), (Reps.up q_5 (Hp.up hp_110)), (RdS.now q_8 hp_110), (RdS.now q_11 hp_110), (RdS.now q_14 hp_110), q_17, (RdS.now q_21 hp_110), (Ep.frz ep0 (hp_110.pick [1, 2] (by decide) rfl)), (hp_110.pick [1, 2] (by decide) rfl).aft⟩
 have H := iff_ h_99 H
 refine kq tb hp_92 [] [(55, .bool (decide (a1.Op = 2)))] (by kernel_rfl) fun σ => ?_
 refine k_if (tm rfl rfl) (fun h_113 => ?_) (fun h_113 => ?_)
 ·have H := ift h_113 H
  refine k_anyF [[0, 1, 2, 3, 4, 5, 6], [0, 1, 2, 3, 4, 5, 6], [0, 1, 2, 3, 4, 5, 6], [0, 1, 2, 3, 4, 5, 6], [0, 1, 2, 3, 4, 5, 6], [0, 1, 2, 3, 4, 5, 6], [0, 1, 2, 3, 4, 5, 6], [0, 1, 2, 3, 4, 5, 6], [0, 1, 2, 3, 4, 5, 6], [0, 1, 2, 3, 4, 5, 6], [0, 1, 2, 3, 4, 5, 6], [0, 1, 2, 3, 4, 5, 6], [0, 1, 2, 3, 4, 5, 6], [0, 1, 2, 3, 4, 5, 6], [0, 2, 3, 4, 5, 6]] [0, 0, 2, 0, 8, 0, 32, 120, 0, 256, 1016, 1, 2049, 8191, 16383] mixed hp_92 15 (by kernel_rfl) (fun w_114 hp_115 => ?_)
  obtain ⟨g_116, H⟩ := grd H
  obtain ⟨cs_121, rp_120, q_122⟩ := arr_elem q_3 g_116
  obtain ⟨A_117, c_118, rfl, q_119⟩ := rp_120
  refine w_takes (f := 1) tb [0, 1, 2, 3, 4, 5, 6] (Wp.of hp_115 [0, 1, 2, 3, 4, 5, 6] rfl) [⟨_, _, [1], fun w h => arr_at (pre := ([] : List Value)) (post := ([] : List Value) ++ (cs_4 ++ ([.int .i64 a0.cmp.N, .slice A_6 a0.cmp.Hang.length c_7, .slice A_9 a0.ctrl.length c_10, .slice A_12 a0.fenced.length c_13, .int .i64 a0.hold, .int .i64 a0.held, .slice A_15 a0.events.length c_16, .slice A_19 a0.answers.length c_20, .int .i64 a0.locs, .int .i64 a0.base] : List Value))) (h.get (i := 1) (j := 0) rfl rfl) rfl rfl q_122⟩] [.a 70 7 b_1 0 _ _ g_116] [] [(0, 1, 0), (3, 3, 0), (7, 6, 0)] [] [0, 1, 3, 5, 6, 8, 11, 12, 2, 4, 7, 9, 10, 13] 16383 [(67, .agg #[.int .i64 (wrap64 (o_76.1 + (wrap64 (a1.Imm * 65536)))), .slice A_85 o_76.2.length c_86]), (70, .pointer (some ⟨b_1, 0 + (a1.T : Int).toNat * 2, none⟩))] (fun _ => (po_then (po_x po_body))) rfl rfl (by kernel_rfl) fun σ => ?_
  refine w_one (m' := 32767) 14 rfl (by kernel_rfl) (by kernel_rfl) ?_
  refine s_storeA (E := selvageref16_Cell_E) (i := a1.T) (inn := 0) (r := 1) (el := (⟨wrap64 (o_76.1 + (wrap64 (a1.Imm * 65536))), o_76.2⟩ : selvageref16_Cell)) (vs := [.int .i64 (wrap64 (o_76.1 + (wrap64 (a1.Imm * 65536)))), .slice A_85 o_76.2.length c_86]) (pre := ([] : List Value)) (post := ([] : List Value) ++ (cs_4 ++ ([.int .i64 a0.cmp.N, .slice A_6 a0.cmp.Hang.length c_7, .slice A_9 a0.ctrl.length c_10, .slice A_12 a0.fenced.length c_13, .int .i64 a0.hold, .int .i64 a0.held, .slice A_15 a0.events.length c_16, .slice A_19 a0.answers.length c_20, .int .i64 a0.locs, .int .i64 a0.base] : List Value))) (fun q_ => (([] : List Value) ++ (q_ ++ (([] : List Value) ++ (cs_4 ++ ([.int .i64 a0.cmp.N, .slice A_6 a0.cmp.Hang.length c_7, .slice A_9 a0.ctrl.length c_10, .slice A_12 a0.fenced.length c_13, .int .i64 a0.hold, .int .i64 a0.held, .slice A_15 a0.events.length c_16, .slice A_19 a0.answers.length c_20, .int .i64 a0.locs, .int .i64 a0.base] : List Value)))))) hp_115 (tm rfl rfl) (tm rfl rfl) rfl Try.sizeOf67 rfl rfl rfl rfl (fun _ => rfl) rfl q_3 g_116 rfl q_122 ⟨A_85, c_86, rfl, q_87⟩ (fun w_123 cs_125 hp_124 q_126 => ?_)
  refine k_nil ?_
  refine ⟨(Wp.of hp_124 [0, 2, 3, 4, 5, 6] rfl), ?_⟩
  refine w_done (by kernel_rfl) ?_
  obtain rfl := Option.some.inj H
  exact k_endn rfl .nil rfl ⟨_, cs_125, cs_4, A_6, c_7, X_18, rfl, (Reps.up q_126 (Hp.up hp_124)), (Reps.up q_5 (Hp.up hp_124)), (RdS.now q_8 hp_124), (RdS.now q_11 hp_124), (RdS.now q_14 hp_124), q_17, (RdS.now q_21 hp_124), (Ep.frz ep0 (hp_124.pick [1, 2] (by decide) rfl)), (hp_124.pick [1, 2] (by decide) rfl).aft⟩
 have H := iff_ h_113 H
 refine kq tb hp_92 [] [(71, .bool (decide (a1.Op = 3)))] (by kernel_rfl) fun σ => ?_
 refine k_if (tm rfl rfl) (fun h_127 => ?_) (fun h_127 => ?_)
 ·have H := ift h_127 H
  refine k_anyF [[0, 1, 2, 3, 4, 5, 6], [0, 1, 2, 3, 4, 5, 6], [0, 1, 2, 3, 4, 5, 6], [0, 1, 2, 3, 4, 5, 6], [0, 1, 2, 3, 4, 5, 6], [0, 1, 2, 3, 4, 5, 6], [0, 1, 2, 3, 4, 5, 6], [0, 1, 2, 3, 4, 5, 6], [0, 1, 2, 3, 4, 5, 6], [0, 1, 2, 3, 4, 5, 6], [0, 1, 2, 3, 4, 5, 6], [0, 1, 2, 3, 4, 5, 6], [0, 1, 2, 3, 4, 5, 6], [0, 2, 3, 4, 5, 6]] [0, 0, 2, 0, 8, 0, 56, 0, 128, 504, 1, 1025, 4095, 8191] mixed hp_92 14 (by kernel_rfl) (fun w_128 hp_129 => ?_)
  obtain ⟨g_130, H⟩ := grd H
  obtain ⟨cs_135, rp_134, q_136⟩ := arr_elem q_3 g_130
  obtain ⟨A_131, c_132, rfl, q_133⟩ := rp_134
  refine w_takes (f := 1) tb [0, 1, 2, 3, 4, 5, 6] (Wp.of hp_129 [0, 1, 2, 3, 4, 5, 6] rfl) [⟨_, _, [1], fun w h => arr_at (pre := ([] : List Value)) (post := ([] : List Value) ++ (cs_4 ++ ([.int .i64 a0.cmp.N, .slice A_6 a0.cmp.Hang.length c_7, .slice A_9 a0.ctrl.length c_10, .slice A_12 a0.fenced.length c_13, .int .i64 a0.hold, .int .i64 a0.held, .slice A_15 a0.events.length c_16, .slice A_19 a0.answers.length c_20, .int .i64 a0.locs, .int .i64 a0.base] : List Value))) (h.get (i := 1) (j := 0) rfl rfl) rfl rfl q_136⟩] [.a 85 7 b_1 0 _ _ g_130] [] [(0, 1, 0), (3, 3, 0), (4, 4, 0)] [] [0, 1, 3, 5, 7, 10, 11, 2, 4, 6, 8, 9, 12] 8191 [(82, .agg #[.int .i64 (bits .or .i64 ((vg a0.regs a1.A).N) a1.Imm), .slice A_28 ((vg a0.regs a1.A).Hang).length c_29]), (85, .pointer (some ⟨b_1, 0 + (a1.T : Int).toNat * 2, none⟩))] (fun _ => (po_then (po_x po_body))) rfl rfl (by kernel_rfl) fun σ => ?_
  refine w_one (m' := 16383) 13 rfl (by kernel_rfl) (by kernel_rfl) ?_
  refine s_storeA (E := selvageref16_Cell_E) (i := a1.T) (inn := 0) (r := 1) (el := (⟨bits .or .i64 ((vg a0.regs a1.A).N) a1.Imm, (vg a0.regs a1.A).Hang⟩ : selvageref16_Cell)) (vs := [.int .i64 (bits .or .i64 ((vg a0.regs a1.A).N) a1.Imm), .slice A_28 ((vg a0.regs a1.A).Hang).length c_29]) (pre := ([] : List Value)) (post := ([] : List Value) ++ (cs_4 ++ ([.int .i64 a0.cmp.N, .slice A_6 a0.cmp.Hang.length c_7, .slice A_9 a0.ctrl.length c_10, .slice A_12 a0.fenced.length c_13, .int .i64 a0.hold, .int .i64 a0.held, .slice A_15 a0.events.length c_16, .slice A_19 a0.answers.length c_20, .int .i64 a0.locs, .int .i64 a0.base] : List Value))) (fun q_ => (([] : List Value) ++ (q_ ++ (([] : List Value) ++ (cs_4 ++ ([.int .i64 a0.cmp.N, .slice A_6 a0.cmp.Hang.length c_7, .slice A_9 a0.ctrl.length c_10, .slice A_12 a0.fenced.length c_13, .int .i64 a0.hold, .int .i64 a0.held, .slice A_15 a0.events.length c_16, .slice A_19 a0.answers.length c_20, .int .i64 a0.locs, .int .i64 a0.base] : List Value)))))) hp_129 (tm rfl rfl) (tm rfl rfl) rfl Try.sizeOf67 rfl rfl rfl rfl (fun _ => rfl) rfl q_3 g_130 rfl q_136 ⟨A_28, c_29, rfl, q_30⟩ (fun w_137 cs_139 hp_138 q_140 => ?_)
  refine k_nil ?_
  refine ⟨(Wp.of hp_138 [0, 2, 3, 4, 5, 6] rfl), ?_⟩
  refine w_done (by kernel_rfl) ?_
  obtain rfl := Option.some.inj H
  exact k_endn rfl .nil rfl ⟨_, cs_139, cs_4, A_6, c_7, X_18, rfl, (Reps.up q_140 (Hp.up hp_138)), (Reps.up q_5 (Hp.up hp_138)), (RdS.now q_8 hp_138), (RdS.now q_11 hp_138), (RdS.now q_14 hp_138), q_17, (RdS.now q_21 hp_138), (Ep.frz ep0 (hp_138.pick [1, 2] (by decide) rfl)), (hp_138.pick [1, 2] (by decide) rfl).aft⟩
 have H := iff_ h_127 H
 refine kq tb hp_92 [] [(86, .bool (decide (a1.Op = 4)))] (by kernel_rfl) fun σ => ?_
 refine k_if (tm rfl rfl) (fun h_141 => ?_) (fun h_141 => ?_)
 ·have H := ift h_141 H
  refine k_anyF [[0, 1, 2, 3, 4, 5, 6], [0, 1, 2, 3, 4, 5, 6], [0, 1, 2, 3, 4, 5, 6], [0, 1, 2, 3, 4, 5, 6], [0, 1, 2, 3, 4, 5, 6], [0, 1, 2, 3, 4, 5, 6], [0, 1, 2, 3, 4, 5, 6], [0, 1, 2, 3, 4, 5, 6], [0, 1, 2, 3, 4, 5, 6], [0, 1, 2, 3, 4, 5, 6], [0, 1, 2, 3, 4, 5, 6], [0, 1, 2, 3, 4, 5, 6], [0, 1, 2, 3, 4, 5, 6], [0, 1, 2, 3, 4, 5, 6], [0, 2, 3, 4, 5, 6]] [0, 0, 2, 0, 8, 0, 32, 120, 0, 256, 1016, 1, 2049, 8191, 16383] mixed hp_92 15 (by kernel_rfl) (fun w_142 hp_143 => ?_)
  obtain ⟨g_144, H⟩ := grd H
  obtain ⟨cs_149, rp_148, q_150⟩ := arr_elem q_3 g_144
  obtain ⟨A_145, c_146, rfl, q_147⟩ := rp_148
  refine w_takes (f := 1) tb [0, 1, 2, 3, 4, 5, 6] (Wp.of hp_143 [0, 1, 2, 3, 4, 5, 6] rfl) [⟨_, _, [1], fun w h => arr_at (pre := ([] : List Value)) (post := ([] : List Value) ++ (cs_4 ++ ([.int .i64 a0.cmp.N, .slice A_6 a0.cmp.Hang.length c_7, .slice A_9 a0.ctrl.length c_10, .slice A_12 a0.fenced.length c_13, .int .i64 a0.hold, .int .i64 a0.held, .slice A_15 a0.events.length c_16, .slice A_19 a0.answers.length c_20, .int .i64 a0.locs, .int .i64 a0.base] : List Value))) (h.get (i := 1) (j := 0) rfl rfl) rfl rfl q_150⟩] [.a 101 7 b_1 0 _ _ g_144] [] [(0, 1, 0), (3, 3, 0), (4, 4, 0)] [] [0, 1, 3, 5, 6, 8, 11, 12, 2, 4, 7, 9, 10, 13] 16383 [(98, .agg #[.int .i64 (bits .or .i64 ((vg a0.regs a1.A).N) (wrap64 (a1.Imm * 65536))), .slice A_28 ((vg a0.regs a1.A).Hang).length c_29]), (101, .pointer (some ⟨b_1, 0 + (a1.T : Int).toNat * 2, none⟩))] (fun _ => (po_then (po_x po_body))) rfl rfl (by kernel_rfl) fun σ => ?_
  refine w_one (m' := 32767) 14 rfl (by kernel_rfl) (by kernel_rfl) ?_
  refine s_storeA (E := selvageref16_Cell_E) (i := a1.T) (inn := 0) (r := 1) (el := (⟨bits .or .i64 ((vg a0.regs a1.A).N) (wrap64 (a1.Imm * 65536)), (vg a0.regs a1.A).Hang⟩ : selvageref16_Cell)) (vs := [.int .i64 (bits .or .i64 ((vg a0.regs a1.A).N) (wrap64 (a1.Imm * 65536))), .slice A_28 ((vg a0.regs a1.A).Hang).length c_29]) (pre := ([] : List Value)) (post := ([] : List Value) ++ (cs_4 ++ ([.int .i64 a0.cmp.N, .slice A_6 a0.cmp.Hang.length c_7, .slice A_9 a0.ctrl.length c_10, .slice A_12 a0.fenced.length c_13, .int .i64 a0.hold, .int .i64 a0.held, .slice A_15 a0.events.length c_16, .slice A_19 a0.answers.length c_20, .int .i64 a0.locs, .int .i64 a0.base] : List Value))) (fun q_ => (([] : List Value) ++ (q_ ++ (([] : List Value) ++ (cs_4 ++ ([.int .i64 a0.cmp.N, .slice A_6 a0.cmp.Hang.length c_7, .slice A_9 a0.ctrl.length c_10, .slice A_12 a0.fenced.length c_13, .int .i64 a0.hold, .int .i64 a0.held, .slice A_15 a0.events.length c_16, .slice A_19 a0.answers.length c_20, .int .i64 a0.locs, .int .i64 a0.base] : List Value)))))) hp_143 (tm rfl rfl) (tm rfl rfl) rfl Try.sizeOf67 rfl rfl rfl rfl (fun _ => rfl) rfl q_3 g_144 rfl q_150 ⟨A_28, c_29, rfl, q_30⟩ (fun w_151 cs_153 hp_152 q_154 => ?_)
  refine k_nil ?_
  refine ⟨(Wp.of hp_152 [0, 2, 3, 4, 5, 6] rfl), ?_⟩
  refine w_done (by kernel_rfl) ?_
  obtain rfl := Option.some.inj H
  exact k_endn rfl .nil rfl ⟨_, cs_153, cs_4, A_6, c_7, X_18, rfl, (Reps.up q_154 (Hp.up hp_152)), (Reps.up q_5 (Hp.up hp_152)), (RdS.now q_8 hp_152), (RdS.now q_11 hp_152), (RdS.now q_14 hp_152), q_17, (RdS.now q_21 hp_152), (Ep.frz ep0 (hp_152.pick [1, 2] (by decide) rfl)), (hp_152.pick [1, 2] (by decide) rfl).aft⟩
 have H := iff_ h_141 H
 refine kq tb hp_92 [] [(102, .bool (decide (a1.Op = 5)))] (by kernel_rfl) fun σ => ?_
 refine k_if (tm rfl rfl) (fun h_155 => ?_) (fun h_155 => ?_)
 ·as_aux_lemma =>
  have H := ift h_155 H
  refine kq tb hp_92 [(4, 4, 0)] [(9, .int .i64 ((vg a0.regs a1.A).N))] (by kernel_rfl) fun σ => ?_
  refine k_seq ?_
  refine kq tb hp_92 [] [(10, .int .i64 0)] (by kernel_rfl) fun σ => ?_
  obtain ⟨o_156, H, G_157⟩ := bindSome H
  refine k_cut (fun a w' => ∃ (σ_184 : Nat → Value), a = st 219 [(0, .pointer (some ⟨b_1, 0, none⟩)), (3, .pointer (some ⟨b_22, 0, none⟩)), (4, .pointer (some ⟨(gb_61 16), 0, none⟩)), (9, .int .i64 o_156)] σ_184 [] ∧ Hp (On [[(b_1, .cells (([] : List Value) ++ (cs_2 ++ (([] : List Value) ++ (cs_4 ++ ([.int .i64 a0.cmp.N, .slice A_6 a0.cmp.Hang.length c_7, .slice A_9 a0.ctrl.length c_10, .slice A_12 a0.fenced.length c_13, .int .i64 a0.hold, .int .i64 a0.held, .slice A_15 a0.events.length c_16, .slice A_19 a0.answers.length c_20, .int .i64 a0.locs, .int .i64 a0.base] : List Value))))).toArray 71 (0, 0))], X_18]) F w w w' [[(b_1, .cells (([] : List Value) ++ (cs_2 ++ (([] : List Value) ++ (cs_4 ++ ([.int .i64 a0.cmp.N, .slice A_6 a0.cmp.Hang.length c_7, .slice A_9 a0.ctrl.length c_10, .slice A_12 a0.fenced.length c_13, .int .i64 a0.hold, .int .i64 a0.held, .slice A_15 a0.events.length c_16, .slice A_19 a0.answers.length c_20, .int .i64 a0.locs, .int .i64 a0.base] : List Value))))).toArray 71 (0, 0))], X_18, [(b_22, .cells #[.int .i64 a1.Op, .int .i64 a1.T, .int .i64 a1.A, .int .i64 a1.B, .int .i64 a1.Imm] 44 (0, 0))], [((gb_61 16), .cells #[.int .i64 ((vg a0.regs a1.A).N), .slice A_28 ((vg a0.regs a1.A).Hang).length c_29] 67 (0, 0))]]) ?_ ?_
  ·as_aux_lemma =>
   refine k_block ?_
   refine k_lp (fun (x_158 : Int × Int) a w' => ∃ (σ_166 : Nat → Value), a = st 219 [(0, .pointer (some ⟨b_1, 0, none⟩)), (3, .pointer (some ⟨b_22, 0, none⟩)), (4, .pointer (some ⟨(gb_61 16), 0, none⟩)), (9, .int .i64 x_158.1), (10, .int .i64 x_158.2)] σ_166 [] ∧ Hp (On [[(b_1, .cells (([] : List Value) ++ (cs_2 ++ (([] : List Value) ++ (cs_4 ++ ([.int .i64 a0.cmp.N, .slice A_6 a0.cmp.Hang.length c_7, .slice A_9 a0.ctrl.length c_10, .slice A_12 a0.fenced.length c_13, .int .i64 a0.hold, .int .i64 a0.held, .slice A_15 a0.events.length c_16, .slice A_19 a0.answers.length c_20, .int .i64 a0.locs, .int .i64 a0.base] : List Value))))).toArray 71 (0, 0))], X_18]) F w w w' [[(b_1, .cells (([] : List Value) ++ (cs_2 ++ (([] : List Value) ++ (cs_4 ++ ([.int .i64 a0.cmp.N, .slice A_6 a0.cmp.Hang.length c_7, .slice A_9 a0.ctrl.length c_10, .slice A_12 a0.fenced.length c_13, .int .i64 a0.hold, .int .i64 a0.held, .slice A_15 a0.events.length c_16, .slice A_19 a0.answers.length c_20, .int .i64 a0.locs, .int .i64 a0.base] : List Value))))).toArray 71 (0, 0))], X_18, [(b_22, .cells #[.int .i64 a1.Op, .int .i64 a1.T, .int .i64 a1.A, .int .i64 a1.B, .int .i64 a1.Imm] 44 (0, 0))], [((gb_61 16), .cells #[.int .i64 ((vg a0.regs a1.A).N), .slice A_28 ((vg a0.regs a1.A).Hang).length c_29] 67 (0, 0))]]) H ⟨_, seenF ⟨rfl, rfl, rfl, rfl, rfl, trivial⟩, hp_92.pick [1, 2, 3, 4] (by decide) rfl⟩ ?_
   clear H
   rintro x_158 a w' z_ ⟨σ_161, rfl, hp_162⟩ H hz_159
   unfold selvageref16_state_reckon.l0 at H
   refine k_seq ?_
   refine kq tb hp_162 [(3, 2, 0)] [(109, .bool (decide (x_158.2 < a1.Imm)))] (by kernel_rfl) fun σ => ?_
   refine k_if (tm rfl rfl) (fun h_165 => ?_) (fun h_165 => ?_)
   ·have H := ift h_165 H
    refine k_skip ?_
    refine k_seq ?_
    refine k_block ?_
    refine kr tb hp_162 [] [(9, .int .i64 (wrap64 (x_158.1 + x_158.1)))] (by kernel_rfl) fun σ => ?_
    refine kr tb hp_162 [] [(10, .int .i64 (wrap64 (x_158.2 + 1)))] (by kernel_rfl) fun σ => ?_
    obtain rfl := Option.some.inj H
    exact ⟨_, rfl, ⟨_, seenF ⟨rfl, rfl, rfl, rfl, rfl, trivial⟩, hp_162⟩⟩
   have H := iff_ h_165 H
   refine k_exit ?_
   refine q_here ?_
   obtain ⟨v_, H', hv_⟩ := mapSome H
   have hv_ := hz_159 _ hv_
   subst hv_
   have H := H'
   clear H'
   obtain rfl := Option.some.inj H
   exact ⟨_, seenF ⟨rfl, rfl, rfl, rfl, trivial⟩, hp_162⟩
  clear H
  rintro a w' ⟨σ_166, rfl, hp_167⟩
  have H := G_157
  refine k_anyF [[0, 1, 2, 3], [0, 1, 2, 3], [0, 1, 2, 3], [0, 1, 2, 3], [0, 1, 2, 3], [0, 1, 2, 3], [0, 1, 2, 3], [0, 1, 2, 3], [0, 1, 2, 3], [0, 1, 2, 3], [1, 2, 3]] [0, 0, 2, 0, 0, 16, 56, 1, 129, 511, 1023] mixed hp_167 11 (by kernel_rfl) (fun w_170 hp_171 => ?_)
  obtain ⟨g_172, H⟩ := grd H
  obtain ⟨cs_177, rp_176, q_178⟩ := arr_elem q_3 g_172
  obtain ⟨A_173, c_174, rfl, q_175⟩ := rp_176
  refine w_takes (f := 1) tb [0, 1, 2, 3] (Wp.of hp_171 [0, 1, 2, 3] rfl) [⟨_, _, [0], fun w h => arr_at (pre := ([] : List Value)) (post := ([] : List Value) ++ (cs_4 ++ ([.int .i64 a0.cmp.N, .slice A_6 a0.cmp.Hang.length c_7, .slice A_9 a0.ctrl.length c_10, .slice A_12 a0.fenced.length c_13, .int .i64 a0.hold, .int .i64 a0.held, .slice A_15 a0.events.length c_16, .slice A_19 a0.answers.length c_20, .int .i64 a0.locs, .int .i64 a0.base] : List Value))) (h.get (i := 0) (j := 0) rfl rfl) rfl rfl q_178⟩] [.a 124 4 b_1 0 _ _ g_172] [] [(0, 0, 0), (3, 2, 0), (4, 3, 0)] [] [0, 1, 3, 4, 7, 8, 2, 5, 6, 9] 1023 [(121, .agg #[.int .i64 o_156, .slice A_28 ((vg a0.regs a1.A).Hang).length c_29]), (124, .pointer (some ⟨b_1, 0 + (a1.T : Int).toNat * 2, none⟩))] (fun _ => (po_then (po_x po_body))) rfl rfl (by kernel_rfl) fun σ => ?_
  refine w_one (m' := 2047) 10 rfl (by kernel_rfl) (by kernel_rfl) ?_
  refine s_storeA (E := selvageref16_Cell_E) (i := a1.T) (inn := 0) (r := 0) (el := (⟨o_156, (vg a0.regs a1.A).Hang⟩ : selvageref16_Cell)) (vs := [.int .i64 o_156, .slice A_28 ((vg a0.regs a1.A).Hang).length c_29]) (pre := ([] : List Value)) (post := ([] : List Value) ++ (cs_4 ++ ([.int .i64 a0.cmp.N, .slice A_6 a0.cmp.Hang.length c_7, .slice A_9 a0.ctrl.length c_10, .slice A_12 a0.fenced.length c_13, .int .i64 a0.hold, .int .i64 a0.held, .slice A_15 a0.events.length c_16, .slice A_19 a0.answers.length c_20, .int .i64 a0.locs, .int .i64 a0.base] : List Value))) (fun q_ => (([] : List Value) ++ (q_ ++ (([] : List Value) ++ (cs_4 ++ ([.int .i64 a0.cmp.N, .slice A_6 a0.cmp.Hang.length c_7, .slice A_9 a0.ctrl.length c_10, .slice A_12 a0.fenced.length c_13, .int .i64 a0.hold, .int .i64 a0.held, .slice A_15 a0.events.length c_16, .slice A_19 a0.answers.length c_20, .int .i64 a0.locs, .int .i64 a0.base] : List Value)))))) hp_171 (tm rfl rfl) (tm rfl rfl) rfl Try.sizeOf67 rfl rfl rfl rfl (fun _ => rfl) rfl q_3 g_172 rfl q_178 ⟨A_28, c_29, rfl, q_30⟩ (fun w_179 cs_181 hp_180 q_182 => ?_)
  refine k_nil ?_
  refine ⟨(Wp.of hp_180 [1, 2, 3] rfl), ?_⟩
  refine w_done (by kernel_rfl) ?_
  obtain rfl := Option.some.inj H
  exact k_endn rfl .nil rfl ⟨_, cs_181, cs_4, A_6, c_7, X_18, rfl, (Reps.up q_182 (Hp.up hp_180)), (Reps.up q_5 (Hp.up hp_180)), (RdS.now q_8 hp_180), (RdS.now q_11 hp_180), (RdS.now q_14 hp_180), q_17, (RdS.now q_21 hp_180), (Ep.frz ep0 (hp_180.pick [0, 1] (by decide) rfl)), (hp_180.pick [0, 1] (by decide) rfl).aft⟩
 have H := iff_ h_155 H
 refine kq tb hp_92 [] [(125, .bool (decide (a1.Op = 6)))] (by kernel_rfl) fun σ => ?_
 refine k_if (tm rfl rfl) (fun h_184 => ?_) (fun h_184 => ?_)
 ·as_aux_lemma =>
  have H := ift h_184 H
  refine k_anyF [[0, 1, 2, 3, 4, 5, 6], [0, 1, 2, 3, 4, 5, 6], [0, 1, 2, 3, 4, 5, 6], [0, 1, 2, 3, 4, 5, 6], [0, 1, 2, 3, 4, 5, 6], [0, 1, 2, 3, 4, 5, 6], [0, 1, 2, 3, 4, 5, 6], [0, 1, 2, 3, 4, 5, 6], [0, 1, 2, 3, 4, 5, 6], [0, 1, 2, 3, 4, 5, 6], [0, 1, 2, 3, 4, 5, 6], [0, 1, 2, 3, 4, 5, 6], [0, 1, 2, 3, 4, 5, 6], [2, 3, 4, 5, 6]] [0, 0, 2, 0, 8, 0, 32, 120, 0, 504, 1, 1025, 4095, 8191] mixed hp_92 14 (by kernel_rfl) (fun w_185 hp_186 => ?_)
  obtain ⟨g_187, H⟩ := grd H
  obtain ⟨cs_192, rp_191, q_193⟩ := arr_elem q_3 g_187
  obtain ⟨A_188, c_189, rfl, q_190⟩ := rp_191
  refine w_takes (f := 1) tb [0, 1, 2, 3, 4, 5, 6] (Wp.of hp_186 [0, 1, 2, 3, 4, 5, 6] rfl) [⟨_, _, [1], fun w h => arr_at (pre := ([] : List Value)) (post := ([] : List Value) ++ (cs_4 ++ ([.int .i64 a0.cmp.N, .slice A_6 a0.cmp.Hang.length c_7, .slice A_9 a0.ctrl.length c_10, .slice A_12 a0.fenced.length c_13, .int .i64 a0.hold, .int .i64 a0.held, .slice A_15 a0.events.length c_16, .slice A_19 a0.answers.length c_20, .int .i64 a0.locs, .int .i64 a0.base] : List Value))) (h.get (i := 1) (j := 0) rfl rfl) rfl rfl q_193⟩] [.a 139 7 b_1 0 _ _ g_187] [] [(0, 1, 0), (3, 3, 0), (4, 4, 0), (5, 5, 0)] [] [0, 1, 3, 5, 8, 10, 11, 2, 4, 6, 7, 9, 12] 8191 [(136, .agg #[.int .i64 (wrap64 (((vg a0.regs a1.A).N) + ((vg a0.regs a1.B).N))), .slice A_95 r_90.length c_96]), (139, .pointer (some ⟨b_1, 0 + (a1.T : Int).toNat * 2, none⟩))] (fun _ => (po_then (po_x po_body))) rfl rfl (by kernel_rfl) fun σ => ?_
  refine w_one (m' := 16383) 13 rfl (by kernel_rfl) (by kernel_rfl) ?_
  have hp_194 := Hp.pick (R' := [X_98, [(b_1, .cells (([] : List Value) ++ (cs_2 ++ (([] : List Value) ++ (cs_4 ++ ([.int .i64 a0.cmp.N, .slice A_6 a0.cmp.Hang.length c_7, .slice A_9 a0.ctrl.length c_10, .slice A_12 a0.fenced.length c_13, .int .i64 a0.hold, .int .i64 a0.held, .slice A_15 a0.events.length c_16, .slice A_19 a0.answers.length c_20, .int .i64 a0.locs, .int .i64 a0.base] : List Value))))).toArray 71 (0, 0))], X_18, [(b_22, .cells #[.int .i64 a1.Op, .int .i64 a1.T, .int .i64 a1.A, .int .i64 a1.B, .int .i64 a1.Imm] 44 (0, 0))], [((gb_61 16), .cells #[.int .i64 ((vg a0.regs a1.A).N), .slice A_28 ((vg a0.regs a1.A).Hang).length c_29] 67 (0, 0))], [((gb_61 17), .cells #[.int .i64 ((vg a0.regs a1.B).N), .slice A_35 ((vg a0.regs a1.B).Hang).length c_36] 67 (0, 0))], [(b_71, .cells #[.int .i64 o_76.1, .slice A_85 o_76.2.length c_86] 67 (0, 0))]]) [0, 1, 2, 3, 4, 5, 6] hp_186 (by decide) rfl
  have q_198 := (Own.any q_97).froze hp_194
  have ep_197 := ep0.freeze hp_194
  have u_196 := hp_194.frozenUp
  have hp_195 := hp_194.freeze
  have q_200 := q_30.up u_196
  have q_201 := q_37.up u_196
  have q_202 := q_190.up u_196
  have q_203 := q_3.up u_196
  have q_204 := q_5.up u_196
  have q_205 := q_8.up u_196
  have q_206 := q_11.up u_196
  have q_207 := q_14.up u_196
  have q_208 := q_21.up u_196
  have q_209 := q_87.up u_196
  refine s_storeA (E := selvageref16_Cell_E) (i := a1.T) (inn := 0) (r := 0) (el := (⟨wrap64 (((vg a0.regs a1.A).N) + ((vg a0.regs a1.B).N)), r_90⟩ : selvageref16_Cell)) (vs := [.int .i64 (wrap64 (((vg a0.regs a1.A).N) + ((vg a0.regs a1.B).N))), .slice A_95 r_90.length c_96]) (pre := ([] : List Value)) (post := ([] : List Value) ++ (cs_4 ++ ([.int .i64 a0.cmp.N, .slice A_6 a0.cmp.Hang.length c_7, .slice A_9 a0.ctrl.length c_10, .slice A_12 a0.fenced.length c_13, .int .i64 a0.hold, .int .i64 a0.held, .slice A_15 a0.events.length c_16, .slice A_19 a0.answers.length c_20, .int .i64 a0.locs, .int .i64 a0.base] : List Value))) (fun q_ => (([] : List Value) ++ (q_ ++ (([] : List Value) ++ (cs_4 ++ ([.int .i64 a0.cmp.N, .slice A_6 a0.cmp.Hang.length c_7, .slice A_9 a0.ctrl.length c_10, .slice A_12 a0.fenced.length c_13, .int .i64 a0.hold, .int .i64 a0.held, .slice A_15 a0.events.length c_16, .slice A_19 a0.answers.length c_20, .int .i64 a0.locs, .int .i64 a0.base] : List Value)))))) hp_195 (tm rfl rfl) (tm rfl rfl) rfl Try.sizeOf67 rfl rfl rfl rfl (fun _ => rfl) rfl q_203 g_187 rfl q_193 ⟨A_95, c_96, rfl, q_198⟩ (fun w_210 cs_212 hp_211 q_213 => ?_)
  refine k_nil ?_
  refine ⟨(Wp.down u_196 (Wp.of hp_211 [1, 2, 3, 4, 5] rfl)), ?_⟩
  refine w_done (by kernel_rfl) ?_
  obtain rfl := Option.some.inj H
  exact k_endn rfl .nil rfl ⟨_, cs_212, cs_4, A_6, c_7, X_18, rfl, (Reps.up q_213 (Hp.up hp_211)), (Reps.up q_204 (Hp.up hp_211)), (RdS.now q_205 hp_211), (RdS.now q_206 hp_211), (RdS.now q_207 hp_211), q_17, (RdS.now q_208 hp_211), (Ep.frz ep_197 (hp_211.pick [0, 1] (by decide) rfl)), (hp_211.pick [0, 1] (by decide) rfl).aft⟩
 have H := iff_ h_184 H
 refine kq tb hp_92 [] [(140, .bool (decide (a1.Op = 7)))] (by kernel_rfl) fun σ => ?_
 refine k_if (tm rfl rfl) (fun h_214 => ?_) (fun h_214 => ?_)
 ·as_aux_lemma =>
  have H := ift h_214 H
  refine k_anyF [[0, 1, 2, 3, 4, 5, 6], [0, 1, 2, 3, 4, 5, 6], [0, 1, 2, 3, 4, 5, 6], [0, 1, 2, 3, 4, 5, 6], [0, 1, 2, 3, 4, 5, 6], [0, 1, 2, 3, 4, 5, 6], [0, 1, 2, 3, 4, 5, 6], [0, 1, 2, 3, 4, 5, 6], [0, 1, 2, 3, 4, 5, 6], [0, 1, 2, 3, 4, 5, 6], [0, 1, 2, 3, 4, 5, 6], [0, 1, 2, 3, 4, 5, 6], [0, 1, 2, 3, 4, 5, 6], [2, 3, 4, 5, 6]] [0, 0, 2, 0, 8, 0, 32, 120, 0, 504, 1, 1025, 4095, 8191] mixed hp_92 14 (by kernel_rfl) (fun w_215 hp_216 => ?_)
  obtain ⟨g_217, H⟩ := grd H
  obtain ⟨cs_222, rp_221, q_223⟩ := arr_elem q_3 g_217
  obtain ⟨A_218, c_219, rfl, q_220⟩ := rp_221
  refine w_takes (f := 1) tb [0, 1, 2, 3, 4, 5, 6] (Wp.of hp_216 [0, 1, 2, 3, 4, 5, 6] rfl) [⟨_, _, [1], fun w h => arr_at (pre := ([] : List Value)) (post := ([] : List Value) ++ (cs_4 ++ ([.int .i64 a0.cmp.N, .slice A_6 a0.cmp.Hang.length c_7, .slice A_9 a0.ctrl.length c_10, .slice A_12 a0.fenced.length c_13, .int .i64 a0.hold, .int .i64 a0.held, .slice A_15 a0.events.length c_16, .slice A_19 a0.answers.length c_20, .int .i64 a0.locs, .int .i64 a0.base] : List Value))) (h.get (i := 1) (j := 0) rfl rfl) rfl rfl q_223⟩] [.a 154 7 b_1 0 _ _ g_217] [] [(0, 1, 0), (3, 3, 0), (4, 4, 0), (5, 5, 0)] [] [0, 1, 3, 5, 8, 10, 11, 2, 4, 6, 7, 9, 12] 8191 [(151, .agg #[.int .i64 (wrap64 (((vg a0.regs a1.B).N) - ((vg a0.regs a1.A).N))), .slice A_95 r_90.length c_96]), (154, .pointer (some ⟨b_1, 0 + (a1.T : Int).toNat * 2, none⟩))] (fun _ => (po_then (po_x po_body))) rfl rfl (by kernel_rfl) fun σ => ?_
  refine w_one (m' := 16383) 13 rfl (by kernel_rfl) (by kernel_rfl) ?_
  have hp_224 := Hp.pick (R' := [X_98, [(b_1, .cells (([] : List Value) ++ (cs_2 ++ (([] : List Value) ++ (cs_4 ++ ([.int .i64 a0.cmp.N, .slice A_6 a0.cmp.Hang.length c_7, .slice A_9 a0.ctrl.length c_10, .slice A_12 a0.fenced.length c_13, .int .i64 a0.hold, .int .i64 a0.held, .slice A_15 a0.events.length c_16, .slice A_19 a0.answers.length c_20, .int .i64 a0.locs, .int .i64 a0.base] : List Value))))).toArray 71 (0, 0))], X_18, [(b_22, .cells #[.int .i64 a1.Op, .int .i64 a1.T, .int .i64 a1.A, .int .i64 a1.B, .int .i64 a1.Imm] 44 (0, 0))], [((gb_61 16), .cells #[.int .i64 ((vg a0.regs a1.A).N), .slice A_28 ((vg a0.regs a1.A).Hang).length c_29] 67 (0, 0))], [((gb_61 17), .cells #[.int .i64 ((vg a0.regs a1.B).N), .slice A_35 ((vg a0.regs a1.B).Hang).length c_36] 67 (0, 0))], [(b_71, .cells #[.int .i64 o_76.1, .slice A_85 o_76.2.length c_86] 67 (0, 0))]]) [0, 1, 2, 3, 4, 5, 6] hp_216 (by decide) rfl
  have q_228 := (Own.any q_97).froze hp_224
  have ep_227 := ep0.freeze hp_224
  have u_226 := hp_224.frozenUp
  have hp_225 := hp_224.freeze
  have q_230 := q_30.up u_226
  have q_231 := q_37.up u_226
  have q_232 := q_220.up u_226
  have q_233 := q_3.up u_226
  have q_234 := q_5.up u_226
  have q_235 := q_8.up u_226
  have q_236 := q_11.up u_226
  have q_237 := q_14.up u_226
  have q_238 := q_21.up u_226
  have q_239 := q_87.up u_226
  refine s_storeA (E := selvageref16_Cell_E) (i := a1.T) (inn := 0) (r := 0) (el := (⟨wrap64 (((vg a0.regs a1.B).N) - ((vg a0.regs a1.A).N)), r_90⟩ : selvageref16_Cell)) (vs := [.int .i64 (wrap64 (((vg a0.regs a1.B).N) - ((vg a0.regs a1.A).N))), .slice A_95 r_90.length c_96]) (pre := ([] : List Value)) (post := ([] : List Value) ++ (cs_4 ++ ([.int .i64 a0.cmp.N, .slice A_6 a0.cmp.Hang.length c_7, .slice A_9 a0.ctrl.length c_10, .slice A_12 a0.fenced.length c_13, .int .i64 a0.hold, .int .i64 a0.held, .slice A_15 a0.events.length c_16, .slice A_19 a0.answers.length c_20, .int .i64 a0.locs, .int .i64 a0.base] : List Value))) (fun q_ => (([] : List Value) ++ (q_ ++ (([] : List Value) ++ (cs_4 ++ ([.int .i64 a0.cmp.N, .slice A_6 a0.cmp.Hang.length c_7, .slice A_9 a0.ctrl.length c_10, .slice A_12 a0.fenced.length c_13, .int .i64 a0.hold, .int .i64 a0.held, .slice A_15 a0.events.length c_16, .slice A_19 a0.answers.length c_20, .int .i64 a0.locs, .int .i64 a0.base] : List Value)))))) hp_225 (tm rfl rfl) (tm rfl rfl) rfl Try.sizeOf67 rfl rfl rfl rfl (fun _ => rfl) rfl q_233 g_217 rfl q_223 ⟨A_95, c_96, rfl, q_228⟩ (fun w_240 cs_242 hp_241 q_243 => ?_)
  refine k_nil ?_
  refine ⟨(Wp.down u_226 (Wp.of hp_241 [1, 2, 3, 4, 5] rfl)), ?_⟩
  refine w_done (by kernel_rfl) ?_
  obtain rfl := Option.some.inj H
  exact k_endn rfl .nil rfl ⟨_, cs_242, cs_4, A_6, c_7, X_18, rfl, (Reps.up q_243 (Hp.up hp_241)), (Reps.up q_234 (Hp.up hp_241)), (RdS.now q_235 hp_241), (RdS.now q_236 hp_241), (RdS.now q_237 hp_241), q_17, (RdS.now q_238 hp_241), (Ep.frz ep_227 (hp_241.pick [0, 1] (by decide) rfl)), (hp_241.pick [0, 1] (by decide) rfl).aft⟩
 have H := iff_ h_214 H
 refine kq tb hp_92 [] [(155, .bool (decide (a1.Op = 8)))] (by kernel_rfl) fun σ => ?_
 refine k_if (tm rfl rfl) (fun h_244 => ?_) (fun h_244 => ?_)
 ·as_aux_lemma =>
  have H := ift h_244 H
  refine k_anyF [[0, 1, 2, 3, 4, 5, 6], [0, 1, 2, 3, 4, 5, 6], [0, 1, 2, 3, 4, 5, 6], [0, 1, 2, 3, 4, 5, 6], [0, 1, 2, 3, 4, 5, 6], [0, 1, 2, 3, 4, 5, 6], [0, 1, 2, 3, 4, 5, 6], [0, 1, 2, 3, 4, 5, 6], [0, 1, 2, 3, 4, 5, 6], [0, 1, 2, 3, 4, 5, 6], [0, 1, 2, 3, 4, 5, 6], [0, 1, 2, 3, 4, 5, 6], [0, 1, 2, 3, 4, 5, 6], [2, 3, 4, 5, 6]] [0, 0, 2, 0, 8, 0, 32, 120, 0, 504, 1, 1025, 4095, 8191] mixed hp_92 14 (by kernel_rfl) (fun w_245 hp_246 => ?_)
  obtain ⟨g_247, H⟩ := grd H
  obtain ⟨cs_252, rp_251, q_253⟩ := arr_elem q_3 g_247
  obtain ⟨A_248, c_249, rfl, q_250⟩ := rp_251
  refine w_takes (f := 1) tb [0, 1, 2, 3, 4, 5, 6] (Wp.of hp_246 [0, 1, 2, 3, 4, 5, 6] rfl) [⟨_, _, [1], fun w h => arr_at (pre := ([] : List Value)) (post := ([] : List Value) ++ (cs_4 ++ ([.int .i64 a0.cmp.N, .slice A_6 a0.cmp.Hang.length c_7, .slice A_9 a0.ctrl.length c_10, .slice A_12 a0.fenced.length c_13, .int .i64 a0.hold, .int .i64 a0.held, .slice A_15 a0.events.length c_16, .slice A_19 a0.answers.length c_20, .int .i64 a0.locs, .int .i64 a0.base] : List Value))) (h.get (i := 1) (j := 0) rfl rfl) rfl rfl q_253⟩] [.a 169 7 b_1 0 _ _ g_247] [] [(0, 1, 0), (3, 3, 0), (4, 4, 0), (5, 5, 0)] [] [0, 1, 3, 5, 8, 10, 11, 2, 4, 6, 7, 9, 12] 8191 [(166, .agg #[.int .i64 (wrap64 (((vg a0.regs a1.A).N) * ((vg a0.regs a1.B).N))), .slice A_95 r_90.length c_96]), (169, .pointer (some ⟨b_1, 0 + (a1.T : Int).toNat * 2, none⟩))] (fun _ => (po_then (po_x po_body))) rfl rfl (by kernel_rfl) fun σ => ?_
  refine w_one (m' := 16383) 13 rfl (by kernel_rfl) (by kernel_rfl) ?_
  have hp_254 := Hp.pick (R' := [X_98, [(b_1, .cells (([] : List Value) ++ (cs_2 ++ (([] : List Value) ++ (cs_4 ++ ([.int .i64 a0.cmp.N, .slice A_6 a0.cmp.Hang.length c_7, .slice A_9 a0.ctrl.length c_10, .slice A_12 a0.fenced.length c_13, .int .i64 a0.hold, .int .i64 a0.held, .slice A_15 a0.events.length c_16, .slice A_19 a0.answers.length c_20, .int .i64 a0.locs, .int .i64 a0.base] : List Value))))).toArray 71 (0, 0))], X_18, [(b_22, .cells #[.int .i64 a1.Op, .int .i64 a1.T, .int .i64 a1.A, .int .i64 a1.B, .int .i64 a1.Imm] 44 (0, 0))], [((gb_61 16), .cells #[.int .i64 ((vg a0.regs a1.A).N), .slice A_28 ((vg a0.regs a1.A).Hang).length c_29] 67 (0, 0))], [((gb_61 17), .cells #[.int .i64 ((vg a0.regs a1.B).N), .slice A_35 ((vg a0.regs a1.B).Hang).length c_36] 67 (0, 0))], [(b_71, .cells #[.int .i64 o_76.1, .slice A_85 o_76.2.length c_86] 67 (0, 0))]]) [0, 1, 2, 3, 4, 5, 6] hp_246 (by decide) rfl
  have q_258 := (Own.any q_97).froze hp_254
  have ep_257 := ep0.freeze hp_254
  have u_256 := hp_254.frozenUp
  have hp_255 := hp_254.freeze
  have q_260 := q_30.up u_256
  have q_261 := q_37.up u_256
  have q_262 := q_250.up u_256
  have q_263 := q_3.up u_256
  have q_264 := q_5.up u_256
  have q_265 := q_8.up u_256
  have q_266 := q_11.up u_256
  have q_267 := q_14.up u_256
  have q_268 := q_21.up u_256
  have q_269 := q_87.up u_256
  refine s_storeA (E := selvageref16_Cell_E) (i := a1.T) (inn := 0) (r := 0) (el := (⟨wrap64 (((vg a0.regs a1.A).N) * ((vg a0.regs a1.B).N)), r_90⟩ : selvageref16_Cell)) (vs := [.int .i64 (wrap64 (((vg a0.regs a1.A).N) * ((vg a0.regs a1.B).N))), .slice A_95 r_90.length c_96]) (pre := ([] : List Value)) (post := ([] : List Value) ++ (cs_4 ++ ([.int .i64 a0.cmp.N, .slice A_6 a0.cmp.Hang.length c_7, .slice A_9 a0.ctrl.length c_10, .slice A_12 a0.fenced.length c_13, .int .i64 a0.hold, .int .i64 a0.held, .slice A_15 a0.events.length c_16, .slice A_19 a0.answers.length c_20, .int .i64 a0.locs, .int .i64 a0.base] : List Value))) (fun q_ => (([] : List Value) ++ (q_ ++ (([] : List Value) ++ (cs_4 ++ ([.int .i64 a0.cmp.N, .slice A_6 a0.cmp.Hang.length c_7, .slice A_9 a0.ctrl.length c_10, .slice A_12 a0.fenced.length c_13, .int .i64 a0.hold, .int .i64 a0.held, .slice A_15 a0.events.length c_16, .slice A_19 a0.answers.length c_20, .int .i64 a0.locs, .int .i64 a0.base] : List Value)))))) hp_255 (tm rfl rfl) (tm rfl rfl) rfl Try.sizeOf67 rfl rfl rfl rfl (fun _ => rfl) rfl q_263 g_247 rfl q_253 ⟨A_95, c_96, rfl, q_258⟩ (fun w_270 cs_272 hp_271 q_273 => ?_)
  refine k_nil ?_
  refine ⟨(Wp.down u_256 (Wp.of hp_271 [1, 2, 3, 4, 5] rfl)), ?_⟩
  refine w_done (by kernel_rfl) ?_
  obtain rfl := Option.some.inj H
  exact k_endn rfl .nil rfl ⟨_, cs_272, cs_4, A_6, c_7, X_18, rfl, (Reps.up q_273 (Hp.up hp_271)), (Reps.up q_264 (Hp.up hp_271)), (RdS.now q_265 hp_271), (RdS.now q_266 hp_271), (RdS.now q_267 hp_271), q_17, (RdS.now q_268 hp_271), (Ep.frz ep_257 (hp_271.pick [0, 1] (by decide) rfl)), (hp_271.pick [0, 1] (by decide) rfl).aft⟩
 have H := iff_ h_244 H
 refine kq tb hp_92 [] [(170, .bool (decide (a1.Op = 9)))] (by kernel_rfl) fun σ => ?_
 refine k_if (tm rfl rfl) (fun h_274 => ?_) (fun h_274 => ?_)
 ·as_aux_lemma =>
  have H := ift h_274 H
  refine kq tb hp_92 [] [(11, .int .i64 0)] (by kernel_rfl) fun σ => ?_
  refine k_seq ?_
  refine kq tb hp_92 [(5, 5, 0)] [(174, .bool (decide (((vg a0.regs a1.B).N) = (-1))))] (by kernel_rfl) fun σ => ?_
  obtain ⟨o_275, H, G_276⟩ := bindSome H
  refine k_cut (fun a w' => ∃ (σ_311 : Nat → Value), a = st 219 [(0, .pointer (some ⟨b_1, 0, none⟩)), (3, .pointer (some ⟨b_22, 0, none⟩)), (8, .slice A_95 r_90.length c_96), (11, .int .i64 o_275)] σ_311 [] ∧ Hp (On [[(b_1, .cells (([] : List Value) ++ (cs_2 ++ (([] : List Value) ++ (cs_4 ++ ([.int .i64 a0.cmp.N, .slice A_6 a0.cmp.Hang.length c_7, .slice A_9 a0.ctrl.length c_10, .slice A_12 a0.fenced.length c_13, .int .i64 a0.hold, .int .i64 a0.held, .slice A_15 a0.events.length c_16, .slice A_19 a0.answers.length c_20, .int .i64 a0.locs, .int .i64 a0.base] : List Value))))).toArray 71 (0, 0))], X_18]) F w w w' [[(b_1, .cells (([] : List Value) ++ (cs_2 ++ (([] : List Value) ++ (cs_4 ++ ([.int .i64 a0.cmp.N, .slice A_6 a0.cmp.Hang.length c_7, .slice A_9 a0.ctrl.length c_10, .slice A_12 a0.fenced.length c_13, .int .i64 a0.hold, .int .i64 a0.held, .slice A_15 a0.events.length c_16, .slice A_19 a0.answers.length c_20, .int .i64 a0.locs, .int .i64 a0.base] : List Value))))).toArray 71 (0, 0))], X_18, [(b_22, .cells #[.int .i64 a1.Op, .int .i64 a1.T, .int .i64 a1.A, .int .i64 a1.B, .int .i64 a1.Imm] 44 (0, 0))], X_98]) ?_ ?_
  ·refine k_if (tm rfl rfl) (fun h_277 => ?_) (fun h_277 => ?_)
   ·have H := ift h_277 H
    refine kr tb hp_92 [(4, 4, 0)] [(11, .int .i64 (wrap64 (0 - ((vg a0.regs a1.A).N))))] (by kernel_rfl) fun σ => ?_
    obtain rfl := Option.some.inj H
    exact ⟨_, seenF ⟨rfl, rfl, rfl, rfl, trivial⟩, hp_92.pick [1, 2, 3, 0] (by decide) rfl⟩
   have H := iff_ h_277 H
   refine kq tb hp_92 [(5, 5, 0)] [(180, .bool (!decide (((vg a0.regs a1.B).N) = 0)))] (by kernel_rfl) fun σ => ?_
   refine k_if (tm rfl rfl) (fun h_278 => ?_) (fun h_278 => ?_)
   ·have H := ift h_278 H
    refine k_region ?_
    refine sr tb hp_92 [(4, 4, 0), (5, 5, 0)] 4 [(182, .int .i64 ((vg a0.regs a1.A).N)), (184, .int .i64 ((vg a0.regs a1.B).N))] (by kernel_rfl) fun σ => ?_
    obtain ⟨g_279, H⟩ := grd H
    refine sv (v := .int .i64 (wrap64 (Int.tdiv ((vg a0.regs a1.A).N) ((vg a0.regs a1.B).N)))) rfl rfl rfl (e_bin (tm rfl rfl) (tm rfl rfl) (r_div (op := .not) g_279 (wrap_i64 _))) ?_
    refine sv (v := .int .i64 (wrap64 (Int.tdiv ((vg a0.regs a1.A).N) ((vg a0.regs a1.B).N)))) rfl rfl rfl (e_assign (tm rfl rfl)) ?_
    refine k_nil ?_
    obtain rfl := Option.some.inj H
    exact ⟨_, seenF ⟨rfl, rfl, rfl, rfl, trivial⟩, hp_92.pick [1, 2, 3, 0] (by decide) rfl⟩
   have H := iff_ h_278 H
   refine k_skip ?_
   obtain rfl := Option.some.inj H
   exact ⟨_, seenF ⟨rfl, rfl, rfl, rfl, trivial⟩, hp_92.pick [1, 2, 3, 0] (by decide) rfl⟩
  clear H
  rintro a w' ⟨σ_280, rfl, hp_281⟩
  have H := G_276
  refine k_anyF [[0, 1, 2, 3], [0, 1, 2, 3], [0, 1, 2, 3], [0, 1, 2, 3], [0, 1, 2, 3], [0, 1, 2, 3], [0, 1, 2, 3], [0, 1, 2, 3], [0, 1, 2, 3], [1, 2]] [0, 0, 2, 0, 0, 24, 1, 65, 255, 511] mixed hp_281 10 (by kernel_rfl) (fun w_284 hp_285 => ?_)
  obtain ⟨g_286, H⟩ := grd H
  obtain ⟨cs_291, rp_290, q_292⟩ := arr_elem q_3 g_286
  obtain ⟨A_287, c_288, rfl, q_289⟩ := rp_290
  refine w_takes (f := 1) tb [0, 1, 2, 3] (Wp.of hp_285 [0, 1, 2, 3] rfl) [⟨_, _, [0], fun w h => arr_at (pre := ([] : List Value)) (post := ([] : List Value) ++ (cs_4 ++ ([.int .i64 a0.cmp.N, .slice A_6 a0.cmp.Hang.length c_7, .slice A_9 a0.ctrl.length c_10, .slice A_12 a0.fenced.length c_13, .int .i64 a0.hold, .int .i64 a0.held, .slice A_15 a0.events.length c_16, .slice A_19 a0.answers.length c_20, .int .i64 a0.locs, .int .i64 a0.base] : List Value))) (h.get (i := 0) (j := 0) rfl rfl) rfl rfl q_292⟩] [.a 194 4 b_1 0 _ _ g_286] [] [(0, 0, 0), (3, 2, 0)] [] [0, 1, 3, 4, 5, 6, 7, 2, 8] 511 [(191, .agg #[.int .i64 o_275, .slice A_95 r_90.length c_96]), (194, .pointer (some ⟨b_1, 0 + (a1.T : Int).toNat * 2, none⟩))] (fun _ => (po_then (po_x po_body))) rfl rfl (by kernel_rfl) fun σ => ?_
  refine w_one (m' := 1023) 9 rfl (by kernel_rfl) (by kernel_rfl) ?_
  have hp_293 := Hp.pick (R' := [X_98, [(b_1, .cells (([] : List Value) ++ (cs_2 ++ (([] : List Value) ++ (cs_4 ++ ([.int .i64 a0.cmp.N, .slice A_6 a0.cmp.Hang.length c_7, .slice A_9 a0.ctrl.length c_10, .slice A_12 a0.fenced.length c_13, .int .i64 a0.hold, .int .i64 a0.held, .slice A_15 a0.events.length c_16, .slice A_19 a0.answers.length c_20, .int .i64 a0.locs, .int .i64 a0.base] : List Value))))).toArray 71 (0, 0))], X_18, [(b_22, .cells #[.int .i64 a1.Op, .int .i64 a1.T, .int .i64 a1.A, .int .i64 a1.B, .int .i64 a1.Imm] 44 (0, 0))]]) [3, 0, 1, 2] hp_285 (by decide) rfl
  have q_297 := (Own.any q_97).froze hp_293
  have ep_296 := ep0.freeze hp_293
  have u_295 := hp_293.frozenUp
  have hp_294 := hp_293.freeze
  have q_299 := q_289.up u_295
  have q_300 := q_3.up u_295
  have q_301 := q_5.up u_295
  have q_302 := q_8.up u_295
  have q_303 := q_11.up u_295
  have q_304 := q_14.up u_295
  have q_305 := q_21.up u_295
  refine s_storeA (E := selvageref16_Cell_E) (i := a1.T) (inn := 0) (r := 0) (el := (⟨o_275, r_90⟩ : selvageref16_Cell)) (vs := [.int .i64 o_275, .slice A_95 r_90.length c_96]) (pre := ([] : List Value)) (post := ([] : List Value) ++ (cs_4 ++ ([.int .i64 a0.cmp.N, .slice A_6 a0.cmp.Hang.length c_7, .slice A_9 a0.ctrl.length c_10, .slice A_12 a0.fenced.length c_13, .int .i64 a0.hold, .int .i64 a0.held, .slice A_15 a0.events.length c_16, .slice A_19 a0.answers.length c_20, .int .i64 a0.locs, .int .i64 a0.base] : List Value))) (fun q_ => (([] : List Value) ++ (q_ ++ (([] : List Value) ++ (cs_4 ++ ([.int .i64 a0.cmp.N, .slice A_6 a0.cmp.Hang.length c_7, .slice A_9 a0.ctrl.length c_10, .slice A_12 a0.fenced.length c_13, .int .i64 a0.hold, .int .i64 a0.held, .slice A_15 a0.events.length c_16, .slice A_19 a0.answers.length c_20, .int .i64 a0.locs, .int .i64 a0.base] : List Value)))))) hp_294 (tm rfl rfl) (tm rfl rfl) rfl Try.sizeOf67 rfl rfl rfl rfl (fun _ => rfl) rfl q_300 g_286 rfl q_292 ⟨A_95, c_96, rfl, q_297⟩ (fun w_306 cs_308 hp_307 q_309 => ?_)
  refine k_nil ?_
  refine ⟨(Wp.down u_295 (Wp.of hp_307 [1, 2] rfl)), ?_⟩
  refine w_done (by kernel_rfl) ?_
  obtain rfl := Option.some.inj H
  exact k_endn rfl .nil rfl ⟨_, cs_308, cs_4, A_6, c_7, X_18, rfl, (Reps.up q_309 (Hp.up hp_307)), (Reps.up q_301 (Hp.up hp_307)), (RdS.now q_302 hp_307), (RdS.now q_303 hp_307), (RdS.now q_304 hp_307), q_17, (RdS.now q_305 hp_307), (Ep.frz ep_296 (hp_307.pick [0, 1] (by decide) rfl)), (hp_307.pick [0, 1] (by decide) rfl).aft⟩
 have H := iff_ h_274 H
 refine kq tb hp_92 [] [(195, .bool (decide (a1.Op = 16)))] (by kernel_rfl) fun σ => ?_
 refine k_if (tm rfl rfl) (fun h_311 => ?_) (fun h_311 => ?_)
 ·have H := ift h_311 H
  refine k_region ?_
  refine sr tb hp_92 [(0, 1, 0), (4, 4, 0), (5, 5, 0)] 5 [(197, .pointer (some ⟨b_1, 0, none⟩)), (199, .int .i64 ((vg a0.regs a1.A).N)), (201, .int .i64 ((vg a0.regs a1.B).N))] (by kernel_rfl) fun σ => ?_
  refine s_call (.cons (tm rfl rfl) (.cons (tm rfl rfl) .nil)) Try.call51 (selvageref16_sign.calls ((vg a0.regs a1.A).N) ((vg a0.regs a1.B).N) _) rfl ?_
  rintro v_ w_315 ⟨rfl, af_318⟩
  have hp_316 := Hp.callA af_318 hp_92
  refine sr tb hp_316 [(197, 1, 0)] 4 [(204, .agg #[.int .i64 (selvageref16_sign.m ((vg a0.regs a1.A).N) ((vg a0.regs a1.B).N)), .slice A_95 r_90.length c_96]), (206, .pointer (some ⟨b_1, 864, none⟩))] (by kernel_rfl) fun σ => ?_
  refine s_store (i := 1) (j := 0) (vs := [.int .i64 (selvageref16_sign.m ((vg a0.regs a1.A).N) ((vg a0.regs a1.B).N)), .slice A_95 r_90.length c_96]) (l' := (([] : List Value) ++ (cs_2 ++ (([] : List Value) ++ (cs_4 ++ ([.int .i64 (selvageref16_sign.m ((vg a0.regs a1.A).N) ((vg a0.regs a1.B).N)), .slice A_95 r_90.length c_96, .slice A_9 a0.ctrl.length c_10, .slice A_12 a0.fenced.length c_13, .int .i64 a0.hold, .int .i64 a0.held, .slice A_15 a0.events.length c_16, .slice A_19 a0.answers.length c_20, .int .i64 a0.locs, .int .i64 a0.base] : List Value)))))) hp_316 (tm rfl rfl) (tm rfl rfl) rfl Try.sizeOf67 rfl rfl rfl rfl (ble_len (lenA rfl (lenA (arr_len q_3 rfl) (lenA rfl (lenA (arr_len q_5 rfl) rfl)))) rfl) (segu 0 864 rfl (segu 64 800 (arr_len q_3 rfl) (segu 0 800 rfl (segu 800 0 (arr_len q_5 rfl) rfl)))) (fun w_319 hp_320 => ?_)
  refine k_nil ?_
  have hp_321 := Hp.pick (R' := [X_98, [(b_1, .cells (([] : List Value) ++ (cs_2 ++ (([] : List Value) ++ (cs_4 ++ ([.int .i64 (selvageref16_sign.m ((vg a0.regs a1.A).N) ((vg a0.regs a1.B).N)), .slice A_95 r_90.length c_96, .slice A_9 a0.ctrl.length c_10, .slice A_12 a0.fenced.length c_13, .int .i64 a0.hold, .int .i64 a0.held, .slice A_15 a0.events.length c_16, .slice A_19 a0.answers.length c_20, .int .i64 a0.locs, .int .i64 a0.base] : List Value))))).toArray 71 (0, 0))], X_18, [(b_22, .cells #[.int .i64 a1.Op, .int .i64 a1.T, .int .i64 a1.A, .int .i64 a1.B, .int .i64 a1.Imm] 44 (0, 0))], [((gb_61 16), .cells #[.int .i64 ((vg a0.regs a1.A).N), .slice A_28 ((vg a0.regs a1.A).Hang).length c_29] 67 (0, 0))], [((gb_61 17), .cells #[.int .i64 ((vg a0.regs a1.B).N), .slice A_35 ((vg a0.regs a1.B).Hang).length c_36] 67 (0, 0))], [(b_71, .cells #[.int .i64 o_76.1, .slice A_85 o_76.2.length c_86] 67 (0, 0))]]) [0, 1, 2, 3, 4, 5, 6] hp_320 (by decide) rfl
  have q_325 := (Own.any q_97).froze hp_321
  have ep_324 := ep0.freeze hp_321
  have u_323 := hp_321.frozenUp
  have hp_322 := hp_321.freeze
  have q_327 := q_30.up u_323
  have q_328 := q_37.up u_323
  have q_329 := q_3.up u_323
  have q_330 := q_5.up u_323
  have q_331 := q_11.up u_323
  have q_332 := q_14.up u_323
  have q_333 := q_21.up u_323
  have q_334 := q_87.up u_323
  obtain rfl := Option.some.inj H
  exact k_endn rfl .nil rfl ⟨_, cs_2, cs_4, A_95, c_96, X_18, rfl, q_329, q_330, q_325, q_331, q_332, q_17, q_333, (Ep.frz ep_324 (hp_322.pick [0, 1] (by decide) rfl)), (hp_322.pick [0, 1] (by decide) rfl).aft⟩
 have H := iff_ h_311 H
 refine kq tb hp_92 [] [(207, .bool (decide (a1.Op = 17)))] (by kernel_rfl) fun σ => ?_
 refine k_if (tm rfl rfl) (fun h_335 => ?_) (fun h_335 => ?_)
 ·have H := ift h_335 H
  refine k_anyF [[0, 1, 2, 3, 4, 5, 6], [0, 1, 2, 3, 4, 5, 6], [0, 1, 2, 3, 4, 5, 6], [0, 1, 2, 3, 4, 5, 6], [0, 1, 2, 3, 4, 5, 6], [0, 1, 2, 3, 4, 5, 6], [0, 1, 2, 3, 4, 5, 6], [0, 1, 2, 3, 4, 5, 6], [0, 1, 2, 3, 4, 5, 6], [0, 1, 2, 3, 4, 5, 6], [0, 2, 3, 4, 5, 6]] [0, 0, 2, 0, 14, 0, 32, 126, 255, 511, 1023] mixed hp_92 11 (by kernel_rfl) (fun w_336 hp_337 => ?_)
  refine w_takes (f := 5) tb [0, 1, 2, 3, 4, 5, 6] (Wp.of hp_337 [0, 1, 2, 3, 4, 5, 6] rfl) [] [] [] [(0, 1, 0), (4, 4, 0)] [] [0, 1, 3, 5, 2, 6] 111 [(209, .pointer (some ⟨b_1, 0, none⟩)), (212, .int .i64 a1.Imm), (211, .int .i64 ((vg a0.regs a1.A).N)), (215, .slice A_28 ((vg a0.regs a1.A).Hang).length c_29)] (fun _ => (po_then (po_x po_body))) rfl rfl (by kernel_rfl) fun σ => ?_
  refine w_one (m' := 127) 4 rfl (by kernel_rfl) (by kernel_rfl) ?_
  refine s_call (.cons (tm rfl rfl) (.cons (tm rfl rfl) .nil)) Try.call51 (selvageref16_sign.calls ((vg a0.regs a1.A).N) a1.Imm _) rfl ?_
  rintro v_ w_341 ⟨rfl, af_344⟩
  have hp_342 := Hp.callA af_344 hp_337
  refine k_nil ?_
  refine ⟨(Wp.of hp_342 [0, 1, 2, 3, 4, 5, 6] rfl), ?_⟩
  refine w_takes (f := 1) tb [0, 1, 2, 3, 4, 5, 6] (Wp.of hp_342 [0, 1, 2, 3, 4, 5, 6] rfl) [] [] [] [(209, 1, 0)] [] [7, 8, 9] 1023 [(216, .agg #[.int .i64 (selvageref16_sign.m ((vg a0.regs a1.A).N) a1.Imm), .slice A_28 ((vg a0.regs a1.A).Hang).length c_29]), (218, .pointer (some ⟨b_1, 864, none⟩))] (fun _ => (po_then (po_x po_body))) rfl rfl (by kernel_rfl) fun σ => ?_
  refine w_one (m' := 2047) 10 rfl (by kernel_rfl) (by kernel_rfl) ?_
  refine s_store (i := 1) (j := 0) (vs := [.int .i64 (selvageref16_sign.m ((vg a0.regs a1.A).N) a1.Imm), .slice A_28 ((vg a0.regs a1.A).Hang).length c_29]) (l' := (([] : List Value) ++ (cs_2 ++ (([] : List Value) ++ (cs_4 ++ ([.int .i64 (selvageref16_sign.m ((vg a0.regs a1.A).N) a1.Imm), .slice A_28 ((vg a0.regs a1.A).Hang).length c_29, .slice A_9 a0.ctrl.length c_10, .slice A_12 a0.fenced.length c_13, .int .i64 a0.hold, .int .i64 a0.held, .slice A_15 a0.events.length c_16, .slice A_19 a0.answers.length c_20, .int .i64 a0.locs, .int .i64 a0.base] : List Value)))))) hp_342 (tm rfl rfl) (tm rfl rfl) rfl Try.sizeOf67 rfl rfl rfl rfl (ble_len (lenA rfl (lenA (arr_len q_3 rfl) (lenA rfl (lenA (arr_len q_5 rfl) rfl)))) rfl) (segu 0 864 rfl (segu 64 800 (arr_len q_3 rfl) (segu 0 800 rfl (segu 800 0 (arr_len q_5 rfl) rfl)))) (fun w_345 hp_346 => ?_)
  refine k_nil ?_
  refine ⟨(Wp.of hp_346 [0, 2, 3, 4, 5, 6] rfl), ?_⟩
  refine w_done (by kernel_rfl) ?_
  obtain rfl := Option.some.inj H
  exact k_endn rfl .nil rfl ⟨_, cs_2, cs_4, A_28, c_29, X_18, rfl, (Reps.up q_3 (Hp.up hp_346)), (Reps.up q_5 (Hp.up hp_346)), (RdS.now q_30 hp_346), (RdS.now q_11 hp_346), (RdS.now q_14 hp_346), q_17, (RdS.now q_21 hp_346), (Ep.frz ep0 (hp_346.pick [1, 2] (by decide) rfl)), (hp_346.pick [1, 2] (by decide) rfl).aft⟩
 have H := iff_ h_335 H
 refine k_skip ?_
 obtain rfl := Option.some.inj H
 exact k_endn rfl .nil rfl ⟨_, cs_2, cs_4, A_6, c_7, X_18, rfl, (Reps.up q_3 (Hp.up hp_92)), (Reps.up q_5 (Hp.up hp_92)), (RdS.now q_8 hp_92), (RdS.now q_11 hp_92), (RdS.now q_14 hp_92), q_17, (RdS.now q_21 hp_92), (Ep.frz ep0 (hp_92.pick [1, 2] (by decide) rfl)), (hp_92.pick [1, 2] (by decide) rfl).aft⟩

end Go.Proofs.Ytcnchjlomcafeaa.W

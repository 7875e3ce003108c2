/- Functions of the program as plain Lean functions, and that the calls do what they say: written by w3.py. -/
import Derived.Test.YtcnchjlomcafeaaRun
import Derived.Test.YtcnchjlomcafeaaTy
set_option linter.unusedVariables false
set_option linter.unusedSimpArgs false
set_option linter.unusedSectionVars false
namespace Go.Proofs.Ytcnchjlomcafeaa.W
open Go Go.RowKit Go.Proofs.Ytcnchjlomcafeaa.B
attribute [local irreducible] Go.wpList Go.Code.wp Go.Region.wanted Go.yielded
/-! ### selvage/selvageref16.join: function 25 -/
def selvageref16_join.l1 (a0 : List Int) (a1 : List Int) (x_22 : (List Int) × Int) (x_38 : Bool × Int) : Option ((Bool × Int) ⊕ Bool) :=
 if (decide (x_38.2 < (a0.length : Int))) = true then ((if x_38.1 = true then (some true) else (if 0 ≤ x_38.2 ∧ x_38.2 < (a0.length : Int) then (if 0 ≤ x_22.2 ∧ x_22.2 < (a1.length : Int) then (some (decide ((gi a0 x_38.2) = (gi a1 x_22.2)))) else none) else none) : Option Bool).bind fun o_46 => some (Sum.inl (o_46, wrap64 (x_38.2 + 1)))) else ((some x_38.1).map Sum.inr)
def selvageref16_join.l0 (a0 : List Int) (a1 : List Int) (x_22 : (List Int) × Int) : Option (((List Int) × Int) ⊕ (List Int)) :=
 if (decide (x_22.2 < (a1.length : Int))) = true then (((loop (selvageref16_join.l1 a0 a1 x_22) (false, 0) : Option Bool).bind fun o_36 => if (!o_36) = true then (if 0 ≤ x_22.2 ∧ x_22.2 < (a1.length : Int) then (if (x_22.1.length + ([(gi a1 x_22.2)] : List Int).length) * 8 ≤ 140737488355328 then (some (x_22.1 ++ ([(gi a1 x_22.2)] : List Int))) else none) else none) else (some x_22.1) : Option (List Int)).bind fun o_34 => some (Sum.inl (o_34, wrap64 (x_22.2 + 1)))) else ((some x_22.1).map Sum.inr)
def selvageref16_join.m (a0 : List Int) (a1 : List Int) : Option (List Int) :=
 if (([] : List Int).length + a0.length) * 8 ≤ 140737488355328 then ((loop (selvageref16_join.l0 a0 a1) ((([] : List Int) ++ a0), 0) : Option (List Int)).bind fun o_20 => some o_20) else none
set_option maxHeartbeats 4000000 in
set_option maxRecDepth 100000 in
theorem selvageref16_join.calls (a0 : List Int) (A_1 : Option Addr) (c_2 : Nat) (a1 : List Int) (A_4 : Option Addr) (c_5 : Nat) (r : List Int) (w : World) (F : Nat → Prop) (hF : ∀ k, F k → Off w [] k) (q_3 : RdS (intE .i64) F w A_1 c_2 a0) (q_6 : RdS (intE .i64) F w A_4 c_5 a1) (H : selvageref16_join.m a0 a1 = some r) :
 Ret Try.prog 25 [.slice A_1 a0.length c_2, .slice A_4 a1.length c_5] w fun v w' => ∃ (A_1113 : Option Addr) (c_1114 : Nat) (X_1116 : Rsc), v = .slice A_1113 r.length c_1114 ∧ Own (intE .i64) no wz 3 A_1113 c_1114 r X_1116 ∧ Aft w w' [] [X_1116] := by
 unfold selvageref16_join.m at H
 have hp0 := Hp.startR (R := []) (Have.nil w) hF
 have ep0 := Ep.refl F [] w
 refine enter (L := [(0, .slice A_1 a0.length c_2), (1, .slice A_4 a1.length c_5)]) Try.func25 rfl Try.ntmps25 rfl rfl ?_
 refine kq tb hp0 [] [] (by kernel_rfl) fun σ => ?_
 refine k_seq ?_
 refine k_region ?_
 refine s_buildSlice0 (intE .i64) no wz hp0 Try.runUnderlying65 Try.sizeOf3 rfl (fun A_7 c_8 w_9 X_10 hp_11 O_12 => ?_)
 refine sv (v := .slice A_1 a0.length c_2) rfl rfl rfl (e_move (tm rfl rfl)) ?_
 obtain ⟨g_13, H⟩ := grd H
 refine s_append (E := (intE .i64)) (F := no) (wf := wz) (xs := ([] : List Int)) (ys := a0) (r := 0) hp_11 (tm rfl rfl) (tm rfl rfl) Try.underlying65 rfl rfl rfl rfl rfl rfl rfl O_12 (RdS.srcF q_3 (fun h => h) hp_11) g_13 rfl (fun A_14 c_15 w_16 X_17 hp_18 O_19 => ?_)
 refine sv (v := .slice A_14 (([] : List Int) ++ a0).length c_15) rfl rfl rfl (e_assign (tm rfl rfl)) ?_
 refine k_nil ?_
 refine k_seq ?_
 refine kq tb hp_18 [] [(6, .int .i64 0)] (by kernel_rfl) fun σ => ?_
 obtain ⟨o_20, H, G_21⟩ := bindSome H
 refine k_cut (fun a w' => ∃ (σ_113 : Nat → Value) (A_117 : Option Addr) (c_120 : Nat) (X_118 : Rsc), a = st 46 [(5, .slice A_117 o_20.length c_120)] σ_113 [] ∧ Hp (On []) F w w w' [X_118] ∧ Own (intE .i64) no wz 3 A_117 c_120 o_20 X_118) ?_ ?_
 ·as_aux_lemma =>
  refine k_block ?_
  refine k_lp (fun (x_22 : (List Int) × Int) a w' => ∃ (σ_104 : Nat → Value) (A_108 : Option Addr) (c_111 : Nat) (X_109 : Rsc), a = st 46 [(0, .slice A_1 a0.length c_2), (1, .slice A_4 a1.length c_5), (5, .slice A_108 x_22.1.length c_111), (6, .int .i64 x_22.2)] σ_104 [] ∧ Hp (On []) F w w w' [X_109] ∧ Own (intE .i64) no wz 3 A_108 c_111 x_22.1 X_109) H ⟨_, A_14, c_15, X_17, seenF ⟨rfl, rfl, rfl, rfl, trivial⟩, hp_18, O_19⟩ ?_
  clear H
  rintro x_22 a w' z_ ⟨σ_25, A_29, c_32, X_30, rfl, hp_26, O_31⟩ H hz_23
  unfold selvageref16_join.l0 at H
  refine k_seq ?_
  refine kq tb hp_26 [] [(15, .bool (decide (x_22.2 < (a1.length : Int))))] (by kernel_rfl) fun σ => ?_
  refine k_if (tm rfl rfl) (fun h_33 => ?_) (fun h_33 => ?_)
  ·as_aux_lemma =>
   have H := ift h_33 H
   refine k_skip ?_
   refine k_seq ?_
   obtain ⟨o_34, H, G_35⟩ := bindSome H
   refine k_cut (fun a w' => ∃ (σ_104 : Nat → Value) (A_108 : Option Addr) (c_111 : Nat) (X_109 : Rsc), a = st 46 [(0, .slice A_1 a0.length c_2), (1, .slice A_4 a1.length c_5), (5, .slice A_108 o_34.length c_111), (6, .int .i64 x_22.2)] σ_104 [] ∧ Hp (On []) F w w w' [X_109] ∧ Own (intE .i64) no wz 3 A_108 c_111 o_34 X_109) ?_ ?_
   ·as_aux_lemma =>
    refine k_block ?_
    refine kq tb hp_26 [] [(7, .bool false)] (by kernel_rfl) fun σ => ?_
    refine k_seq ?_
    refine kq tb hp_26 [] [(8, .int .i64 0)] (by kernel_rfl) fun σ => ?_
    obtain ⟨o_36, H, G_37⟩ := bindSome H
    refine k_cut (fun a w' => ∃ (σ_95 : Nat → Value), a = st 46 [(0, .slice A_1 a0.length c_2), (1, .slice A_4 a1.length c_5), (5, .slice A_29 x_22.1.length c_32), (6, .int .i64 x_22.2), (7, .bool o_36)] σ_95 [] ∧ Hp (On []) F w w w' [X_30]) ?_ ?_
    ·as_aux_lemma =>
     refine k_block ?_
     refine k_lp (fun (x_38 : Bool × Int) a w' => ∃ (σ_70 : Nat → Value), a = st 46 [(0, .slice A_1 a0.length c_2), (1, .slice A_4 a1.length c_5), (5, .slice A_29 x_22.1.length c_32), (6, .int .i64 x_22.2), (7, .bool x_38.1), (8, .int .i64 x_38.2)] σ_70 [] ∧ Hp (On []) F w w w' [X_30]) H ⟨_, seenF ⟨rfl, rfl, rfl, rfl, rfl, rfl, trivial⟩, hp_26⟩ ?_
     clear H
     rintro x_38 a w' z_ ⟨σ_41, rfl, hp_42⟩ H hz_39
     unfold selvageref16_join.l1 at H
     refine k_seq ?_
     refine kq tb hp_42 [] [(21, .bool (decide (x_38.2 < (a0.length : Int))))] (by kernel_rfl) fun σ => ?_
     refine k_if (tm rfl rfl) (fun h_45 => ?_) (fun h_45 => ?_)
     ·as_aux_lemma =>
      have H := ift h_45 H
      refine k_skip ?_
      refine k_seq ?_
      refine k_block ?_
      obtain ⟨o_46, H, G_47⟩ := bindSome H
      refine k_cut (fun a w' => ∃ (σ_70 : Nat → Value), a = st 46 [(0, .slice A_1 a0.length c_2), (1, .slice A_4 a1.length c_5), (5, .slice A_29 x_22.1.length c_32), (6, .int .i64 x_22.2), (7, .bool o_46), (8, .int .i64 x_38.2)] σ_70 [] ∧ Hp (On []) F w w w' [X_30]) ?_ ?_
      ·as_aux_lemma =>
       rcases Bool.eq_false_or_eq_true x_38.1 with h_48 | h_48
       ·have H := ift h_48 H
        refine k_anyF [[0], [0], [0], [0], [0], [0], [0], [0], [0], [0], [0], [0], [0]] [0, 1, 3, 3, 15, 31, 3, 3, 195, 451, 1023, 2047, 4095] mixed hp_42 13 (by kernel_rfl) (fun w_49 hp_50 => ?_)
        refine w_takes (f := 11) tb [0] (Wp.of hp_50 [0] rfl) [] [] [] [] [] [0, 1] 3 [(25, .bool x_38.1)] (fun _ => (po_then (po_x (po_x (po_x (po_x po_body)))))) rfl rfl (by kernel_rfl) fun σ => ?_
        refine w_take (m' := 7) (v := undef) 2 rfl rfl (by kernel_rfl) (by kernel_rfl) (by kernel_rfl) (by kernel_rfl) (by kernel_rfl) (by kernel_rfl) (by kernel_rfl) (po_then (po_x (po_x (po_x (po_x po_body))))) (Wp.of hp_50 [0] rfl) (y_off rfl rfl (congrArg Value.bool h_48)) ?_
        refine w_take (m' := 15) (v := undef) 3 rfl rfl (by kernel_rfl) (by kernel_rfl) (by kernel_rfl) (by kernel_rfl) (by kernel_rfl) (by kernel_rfl) (by kernel_rfl) (po_then (po_x (po_x (po_x (po_x po_body))))) (Wp.of hp_50 [0] rfl) (y_off rfl rfl (congrArg Value.bool h_48)) ?_
        refine w_take (m' := 31) (v := undef) 4 rfl rfl (by kernel_rfl) (by kernel_rfl) (by kernel_rfl) (by kernel_rfl) (by kernel_rfl) (by kernel_rfl) (by kernel_rfl) (po_then (po_x (po_x (po_x (po_x po_body))))) (Wp.of hp_50 [0] rfl) (y_off rfl rfl (congrArg Value.bool h_48)) ?_
        refine w_take (m' := 63) (v := undef) 5 rfl rfl (by kernel_rfl) (by kernel_rfl) (by kernel_rfl) (by kernel_rfl) (by kernel_rfl) (by kernel_rfl) (by kernel_rfl) (po_then (po_x (po_x (po_x (po_x po_body))))) (Wp.of hp_50 [0] rfl) (y_off rfl rfl (congrArg Value.bool h_48)) ?_
        refine w_take (m' := 127) (v := undef) 6 rfl rfl (by kernel_rfl) (by kernel_rfl) (by kernel_rfl) (by kernel_rfl) (by kernel_rfl) (by kernel_rfl) (by kernel_rfl) (po_then (po_x (po_x (po_x (po_x po_body))))) (Wp.of hp_50 [0] rfl) (y_off rfl rfl (congrArg Value.bool h_48)) ?_
        refine w_take (m' := 255) (v := undef) 7 rfl rfl (by kernel_rfl) (by kernel_rfl) (by kernel_rfl) (by kernel_rfl) (by kernel_rfl) (by kernel_rfl) (by kernel_rfl) (po_then (po_x (po_x (po_x (po_x po_body))))) (Wp.of hp_50 [0] rfl) (y_off rfl rfl (congrArg Value.bool h_48)) ?_
        refine w_take (m' := 511) (v := undef) 8 rfl rfl (by kernel_rfl) (by kernel_rfl) (by kernel_rfl) (by kernel_rfl) (by kernel_rfl) (by kernel_rfl) (by kernel_rfl) (po_then (po_x (po_x (po_x (po_x po_body))))) (Wp.of hp_50 [0] rfl) (y_off rfl rfl (congrArg Value.bool h_48)) ?_
        refine w_take (m' := 1023) (v := undef) 9 rfl rfl (by kernel_rfl) (by kernel_rfl) (by kernel_rfl) (by kernel_rfl) (by kernel_rfl) (by kernel_rfl) (by kernel_rfl) (po_then (po_x (po_x (po_x (po_x po_body))))) (Wp.of hp_50 [0] rfl) (y_off rfl rfl (congrArg Value.bool h_48)) ?_
        refine w_take (m' := 2047) (v := undef) 10 rfl rfl (by kernel_rfl) (by kernel_rfl) (by kernel_rfl) (by kernel_rfl) (by kernel_rfl) (by kernel_rfl) (by kernel_rfl) (po_then (po_x (po_x (po_x (po_x po_body))))) (Wp.of hp_50 [0] rfl) (y_off rfl rfl (congrArg Value.bool h_48)) ?_
        refine w_take (m' := 4095) (v := .bool true) 11 rfl rfl (by kernel_rfl) (by kernel_rfl) (by kernel_rfl) (by kernel_rfl) (by kernel_rfl) (by kernel_rfl) (by kernel_rfl) (po_then (po_x (po_x (po_x (po_x po_body))))) (Wp.of hp_50 [0] rfl) (y_val (fun w_ hW_ => e_pick (b := x_38.1) (v1 := .bool true) (v2 := .bool true) (tm rfl rfl) (fun _ => rfl) (fun h_ => pk_no h_ h_48) (pk_same _ _))) ?_
        refine w_take (m' := 8191) (v := .bool true) 12 rfl rfl (by kernel_rfl) (by kernel_rfl) (by kernel_rfl) (by kernel_rfl) (by kernel_rfl) (by kernel_rfl) (by kernel_rfl) (po_then (po_x (po_x (po_x (po_x po_body))))) (Wp.of hp_50 [0] rfl) (y_val (fun w_ hW_ => e_assign (tm rfl rfl))) ?_
        refine w_done (by kernel_rfl) ?_
        obtain rfl := Option.some.inj H
        exact ⟨_, seenF ⟨rfl, rfl, rfl, rfl, rfl, rfl, trivial⟩, hp_50⟩
       have H := iff_ h_48 H
       refine k_anyF [[0], [0], [0], [0], [0], [0], [0], [0], [0], [0], [0], [0], [0]] [0, 1, 3, 3, 15, 31, 3, 3, 195, 451, 1023, 2047, 4095] mixed hp_42 13 (by kernel_rfl) (fun w_51 hp_52 => ?_)
       refine w_takes (f := 11) tb [0] (Wp.of hp_52 [0] rfl) [] [] [] [] [] [0, 1] 3 [(25, .bool x_38.1)] (fun _ => (po_then (po_x (po_x (po_x (po_x po_body)))))) rfl rfl (by kernel_rfl) fun σ => ?_
       refine w_take (m' := 7) (v := .slice A_1 a0.length c_2) 2 rfl rfl (by kernel_rfl) (by kernel_rfl) (by kernel_rfl) (by kernel_rfl) (by kernel_rfl) (by kernel_rfl) (by kernel_rfl) (po_then (po_x (po_x (po_x (po_x po_body))))) (Wp.of hp_52 [0] rfl) (y_on rfl rfl (congrArg Value.bool h_48) (fun w_ hW_ => e_move (tm rfl rfl))) ?_
       refine w_take (m' := 15) (v := .int .i64 x_38.2) 3 rfl rfl (by kernel_rfl) (by kernel_rfl) (by kernel_rfl) (by kernel_rfl) (by kernel_rfl) (by kernel_rfl) (by kernel_rfl) (po_then (po_x (po_x (po_x (po_x po_body))))) (Wp.of hp_52 [0] rfl) (y_on rfl rfl (congrArg Value.bool h_48) (fun w_ hW_ => e_move (tm rfl rfl))) ?_
       obtain ⟨g_53, H⟩ := grd H
       obtain ⟨a_58, cs_55, pl_56, q_57, rp_54⟩ := rd_idx q_3 g_53
       obtain rfl : cs_55 = [.int .i64 (gi a0 x_38.2)] := rp_54
       refine w_take (m' := 31) (v := .pointer (some a_58)) 4 rfl rfl (by kernel_rfl) (by kernel_rfl) (by kernel_rfl) (by kernel_rfl) (by kernel_rfl) (by kernel_rfl) (by kernel_rfl) (po_then (po_x (po_x (po_x (po_x po_body))))) (Wp.of hp_52 [0] rfl) (y_on rfl rfl (congrArg Value.bool h_48) (fun w_ hW_ => e_idx (tm rfl rfl) (tm rfl rfl) Try.runUnderlying65 Try.sizeOf3 pl_56 g_53)) ?_
       refine w_take (m' := 63) (v := .int .i64 (gi a0 x_38.2)) 5 rfl rfl (by kernel_rfl) (by kernel_rfl) (by kernel_rfl) (by kernel_rfl) (by kernel_rfl) (by kernel_rfl) (by kernel_rfl) (po_then (po_x (po_x (po_x (po_x po_body))))) (Wp.of hp_52 [0] rfl) (y_on rfl rfl (congrArg Value.bool h_48) (fun w_ hW_ => e_load1 (tm rfl rfl) Try.isAgg3 (cells_zero (hW_.ep q_57) rfl))) ?_
       refine w_take (m' := 127) (v := .slice A_4 a1.length c_5) 6 rfl rfl (by kernel_rfl) (by kernel_rfl) (by kernel_rfl) (by kernel_rfl) (by kernel_rfl) (by kernel_rfl) (by kernel_rfl) (po_then (po_x (po_x (po_x (po_x po_body))))) (Wp.of hp_52 [0] rfl) (y_on rfl rfl (congrArg Value.bool h_48) (fun w_ hW_ => e_move (tm rfl rfl))) ?_
       refine w_take (m' := 255) (v := .int .i64 x_22.2) 7 rfl rfl (by kernel_rfl) (by kernel_rfl) (by kernel_rfl) (by kernel_rfl) (by kernel_rfl) (by kernel_rfl) (by kernel_rfl) (po_then (po_x (po_x (po_x (po_x po_body))))) (Wp.of hp_52 [0] rfl) (y_on rfl rfl (congrArg Value.bool h_48) (fun w_ hW_ => e_move (tm rfl rfl))) ?_
       obtain ⟨g_59, H⟩ := grd H
       obtain ⟨a_64, cs_61, pl_62, q_63, rp_60⟩ := rd_idx q_6 g_59
       obtain rfl : cs_61 = [.int .i64 (gi a1 x_22.2)] := rp_60
       refine w_take (m' := 511) (v := .pointer (some a_64)) 8 rfl rfl (by kernel_rfl) (by kernel_rfl) (by kernel_rfl) (by kernel_rfl) (by kernel_rfl) (by kernel_rfl) (by kernel_rfl) (po_then (po_x (po_x (po_x (po_x po_body))))) (Wp.of hp_52 [0] rfl) (y_on rfl rfl (congrArg Value.bool h_48) (fun w_ hW_ => e_idx (tm rfl rfl) (tm rfl rfl) Try.runUnderlying65 Try.sizeOf3 pl_62 g_59)) ?_
       refine w_take (m' := 1023) (v := .int .i64 (gi a1 x_22.2)) 9 rfl rfl (by kernel_rfl) (by kernel_rfl) (by kernel_rfl) (by kernel_rfl) (by kernel_rfl) (by kernel_rfl) (by kernel_rfl) (po_then (po_x (po_x (po_x (po_x po_body))))) (Wp.of hp_52 [0] rfl) (y_on rfl rfl (congrArg Value.bool h_48) (fun w_ hW_ => e_load1 (tm rfl rfl) Try.isAgg3 (cells_zero (hW_.ep q_63) rfl))) ?_
       refine w_take (m' := 2047) (v := .bool (decide ((gi a0 x_38.2) = (gi a1 x_22.2)))) 10 rfl rfl (by kernel_rfl) (by kernel_rfl) (by kernel_rfl) (by kernel_rfl) (by kernel_rfl) (by kernel_rfl) (by kernel_rfl) (po_then (po_x (po_x (po_x (po_x po_body))))) (Wp.of hp_52 [0] rfl) (y_on rfl rfl (congrArg Value.bool h_48) (fun w_ hW_ => e_bin (tm rfl rfl) (tm rfl rfl) (r_eql rfl))) ?_
       refine w_take (m' := 4095) (v := .bool (decide ((gi a0 x_38.2) = (gi a1 x_22.2)))) 11 rfl rfl (by kernel_rfl) (by kernel_rfl) (by kernel_rfl) (by kernel_rfl) (by kernel_rfl) (by kernel_rfl) (by kernel_rfl) (po_then (po_x (po_x (po_x (po_x po_body))))) (Wp.of hp_52 [0] rfl) (y_val (fun w_ hW_ => e_pick (b := x_38.1) (v1 := .bool (decide ((gi a0 x_38.2) = (gi a1 x_22.2)))) (v2 := .bool (decide ((gi a0 x_38.2) = (gi a1 x_22.2)))) (tm rfl rfl) (fun h_ => pk_no h_48 h_) (fun _ => (tm rfl rfl)) (pk_same _ _))) ?_
       refine w_take (m' := 8191) (v := .bool (decide ((gi a0 x_38.2) = (gi a1 x_22.2)))) 12 rfl rfl (by kernel_rfl) (by kernel_rfl) (by kernel_rfl) (by kernel_rfl) (by kernel_rfl) (by kernel_rfl) (by kernel_rfl) (po_then (po_x (po_x (po_x (po_x po_body))))) (Wp.of hp_52 [0] rfl) (y_val (fun w_ hW_ => e_assign (tm rfl rfl))) ?_
       refine w_done (by kernel_rfl) ?_
       obtain rfl := Option.some.inj H
       exact ⟨_, seenF ⟨rfl, rfl, rfl, rfl, rfl, rfl, trivial⟩, hp_52⟩
      clear H
      rintro a w' ⟨σ_65, rfl, hp_66⟩
      have H := G_47
      refine kr tb hp_66 [] [(8, .int .i64 (wrap64 (x_38.2 + 1)))] (by kernel_rfl) fun σ => ?_
      obtain rfl := Option.some.inj H
      exact ⟨_, rfl, ⟨_, seenF ⟨rfl, rfl, rfl, rfl, rfl, rfl, trivial⟩, hp_66⟩⟩
     have H := iff_ h_45 H
     refine k_exit ?_
     refine q_here ?_
     obtain ⟨v_, H', hv_⟩ := mapSome H
     have hv_ := hz_39 _ hv_
     subst hv_
     have H := H'
     clear H'
     obtain rfl := Option.some.inj H
     exact ⟨_, seenF ⟨rfl, rfl, rfl, rfl, rfl, trivial⟩, hp_42⟩
    clear H
    rintro a w' ⟨σ_70, rfl, hp_71⟩
    have H := G_37
    refine kq tb hp_71 [] [(37, .bool (!o_36))] (by kernel_rfl) fun σ => ?_
    refine k_if (tm rfl rfl) (fun h_74 => ?_) (fun h_74 => ?_)
    ·have H := ift h_74 H
     refine k_region ?_
     obtain ⟨g_75, H⟩ := grd H
     obtain ⟨a_80, cs_77, pl_78, q_79, rp_76⟩ := rd_idx q_6 g_75
     obtain rfl : cs_77 = [.int .i64 (gi a1 x_22.2)] := rp_76
     refine srx tb hp_71 [⟨_, _, (hp_71.ep q_79)⟩] [.s 41 1 _ _ c_5 _ 1 _ pl_78 g_75] [] [] [] 5 [(38, .slice A_29 x_22.1.length c_32), (42, .int .i64 (gi a1 x_22.2))] (by kernel_rfl) fun σ => ?_
     refine s_buildC (zv := .int .i64 0) (E := (intE .i64)) (F := no) (wf := wz) (xs := ([(gi a1 x_22.2)] : List Int)) (cs := [.int .i64 (gi a1 x_22.2)]) (vs := [(0, .int .i64 (gi a1 x_22.2))]) hp_71 (.cons (tm rfl rfl) .nil) Try.runUnderlying65 Try.sizeOf3 (by intro w_; kernel_rfl) rfl rfl rfl (Reps.cat.2 rfl) rfl rfl rfl rfl (fun A_81 c_82 w_83 X_84 hp_85 O_86 => ?_)
     obtain ⟨g_87, H⟩ := grd H
     refine s_append (E := (intE .i64)) (F := no) (wf := wz) (xs := x_22.1) (ys := ([(gi a1 x_22.2)] : List Int)) (r := 0) hp_85 (tm rfl rfl) (tm rfl rfl) Try.underlying65 rfl rfl rfl rfl rfl rfl rfl O_31 (Own.src O_86 hp_85 (i := 1) rfl) g_87 rfl (fun A_88 c_89 w_90 X_91 hp_92 O_93 => ?_)
     refine sv (v := .slice A_88 (x_22.1 ++ ([(gi a1 x_22.2)] : List Int)).length c_89) rfl rfl rfl (e_assign (tm rfl rfl)) ?_
     refine k_nil ?_
     obtain rfl := Option.some.inj H
     exact ⟨_, A_88, c_89, X_91, seenF ⟨rfl, rfl, rfl, rfl, trivial⟩, hp_92.pick [0] (by decide) rfl, O_93⟩
    have H := iff_ h_74 H
    refine k_skip ?_
    obtain rfl := Option.some.inj H
    exact ⟨_, A_29, c_32, X_30, seenF ⟨rfl, rfl, rfl, rfl, trivial⟩, hp_71, O_31⟩
   clear H
   rintro a w' ⟨σ_95, A_99, c_102, X_100, rfl, hp_96, O_101⟩
   have H := G_35
   refine kr tb hp_96 [] [(6, .int .i64 (wrap64 (x_22.2 + 1)))] (by kernel_rfl) fun σ => ?_
   obtain rfl := Option.some.inj H
   exact ⟨_, rfl, ⟨_, A_99, c_102, X_100, seenF ⟨rfl, rfl, rfl, rfl, trivial⟩, hp_96, O_101⟩⟩
  have H := iff_ h_33 H
  refine k_exit ?_
  refine q_here ?_
  obtain ⟨v_, H', hv_⟩ := mapSome H
  have hv_ := hz_23 _ hv_
  subst hv_
  have H := H'
  clear H'
  obtain rfl := Option.some.inj H
  exact ⟨_, A_29, c_32, X_30, seenF ⟨rfl, trivial⟩, hp_26, O_31⟩
 clear H
 rintro a w' ⟨σ_104, A_108, c_111, X_109, rfl, hp_105, O_110⟩
 have H := G_21
 refine kq tb hp_105 [] [(4, .slice A_108 o_20.length c_111)] (by kernel_rfl) fun σ => ?_
 refine k_ret ?_
 obtain rfl := Option.some.inj H
 exact k_end rfl (.tmp rfl rfl .nil) rfl ⟨A_108, c_111, X_109, rfl, O_110, (hp_105).aft⟩

/-! ### selvage/selvageref16.mask: function 50 -/
def selvageref16_mask.l0 (a0 : List Int) (x_6 : Int × Int) : Option ((Int × Int) ⊕ Int) :=
 if (decide (x_6.2 < (a0.length : Int))) = true then (if 0 ≤ x_6.2 ∧ x_6.2 < (a0.length : Int) then (some (Sum.inl (bits .or .u64 x_6.1 ((1 * 2 ^ (min (((gi a0 x_6.2)) % 18446744073709551616).toNat 64)) % 18446744073709551616), wrap64 (x_6.2 + 1)))) else none) else ((some x_6.1).map Sum.inr)
def selvageref16_mask.m (a0 : List Int) : Option Int :=
 (loop (selvageref16_mask.l0 a0) (0, 0) : Option Int).bind fun o_4 => some o_4
set_option maxHeartbeats 4000000 in
set_option maxRecDepth 100000 in
theorem selvageref16_mask.calls (a0 : List Int) (A_1 : Option Addr) (c_2 : Nat) (r : Int) (w : World) (F : Nat → Prop) (hF : ∀ k, F k → Off w [] k) (q_3 : RdS (intE .i64) F w A_1 c_2 a0) (H : selvageref16_mask.m a0 = some r) :
 Ret Try.prog 50 [.slice A_1 a0.length c_2] w fun v w' => v = .int .u64 r ∧ Aft w w' [] [] := by
 unfold selvageref16_mask.m at H
 have hp0 := Hp.startR (R := []) (Have.nil w) hF
 have ep0 := Ep.refl F [] w
 refine enter (L := [(0, .slice A_1 a0.length c_2)]) Try.func50 rfl Try.ntmps50 rfl rfl ?_
 refine kq tb hp0 [] [] (by kernel_rfl) fun σ => ?_
 refine kq tb hp0 [] [(3, .int .u64 0)] (by kernel_rfl) fun σ => ?_
 refine k_seq ?_
 refine kq tb hp0 [] [(4, .int .i64 0)] (by kernel_rfl) fun σ => ?_
 obtain ⟨o_4, H, G_5⟩ := bindSome H
 refine k_cut (fun a w' => ∃ (σ_25 : Nat → Value), a = st 20 [(3, .int .u64 o_4)] σ_25 [] ∧ Hp (On []) F w w w' []) ?_ ?_
 ·as_aux_lemma =>
  refine k_block ?_
  refine k_lp (fun (x_6 : Int × Int) a w' => ∃ (σ_20 : Nat → Value), a = st 20 [(0, .slice A_1 a0.length c_2), (3, .int .u64 x_6.1), (4, .int .i64 x_6.2)] σ_20 [] ∧ Hp (On []) F w w w' []) H ⟨_, seenF ⟨rfl, rfl, rfl, trivial⟩, hp0⟩ ?_
  clear H
  rintro x_6 a w' z_ ⟨σ_9, rfl, hp_10⟩ H hz_7
  unfold selvageref16_mask.l0 at H
  refine k_seq ?_
  refine kq tb hp_10 [] [(8, .bool (decide (x_6.2 < (a0.length : Int))))] (by kernel_rfl) fun σ => ?_
  refine k_if (tm rfl rfl) (fun h_13 => ?_) (fun h_13 => ?_)
  ·have H := ift h_13 H
   refine k_skip ?_
   refine k_seq ?_
   refine k_block ?_
   refine k_region ?_
   obtain ⟨g_14, H⟩ := grd H
   obtain ⟨a_19, cs_16, pl_17, q_18, rp_15⟩ := rd_idx q_3 g_14
   obtain rfl : cs_16 = [.int .i64 (gi a0 x_6.2)] := rp_15
   refine srx tb hp_10 [⟨_, _, (hp_10.ep q_18)⟩] [.s 14 0 _ _ c_2 _ 1 _ pl_17 g_14] [] [] [] 6 [(11, .int .u64 x_6.1), (16, .int .u64 (((gi a0 x_6.2)) % 18446744073709551616))] (by kernel_rfl) fun σ => ?_
   refine sv (v := .int .u64 ((1 * 2 ^ (min (((gi a0 x_6.2)) % 18446744073709551616).toNat 64)) % 18446744073709551616)) rfl rfl rfl (e_bin rfl (tm rfl rfl) (r_shl (Int.emod_nonneg _ (by decide)) (wrap_u64 _))) ?_
   refine sr tb hp_10 [] 2 [(3, .int .u64 (bits .or .u64 x_6.1 ((1 * 2 ^ (min (((gi a0 x_6.2)) % 18446744073709551616).toNat 64)) % 18446744073709551616)))] (by kernel_rfl) fun σ => ?_
   refine k_nil ?_
   refine kr tb hp_10 [] [(4, .int .i64 (wrap64 (x_6.2 + 1)))] (by kernel_rfl) fun σ => ?_
   obtain rfl := Option.some.inj H
   exact ⟨_, rfl, ⟨_, seenF ⟨rfl, rfl, rfl, trivial⟩, hp_10⟩⟩
  have H := iff_ h_13 H
  refine k_exit ?_
  refine q_here ?_
  obtain ⟨v_, H', hv_⟩ := mapSome H
  have hv_ := hz_7 _ hv_
  subst hv_
  have H := H'
  clear H'
  obtain rfl := Option.some.inj H
  exact ⟨_, seenF ⟨rfl, trivial⟩, hp_10⟩
 clear H
 rintro a w' ⟨σ_20, rfl, hp_21⟩
 have H := G_5
 refine kq tb hp_21 [] [(2, .int .u64 o_4)] (by kernel_rfl) fun σ => ?_
 refine k_ret ?_
 obtain rfl := Option.some.inj H
 exact k_end rfl (.tmp rfl rfl .nil) rfl ⟨rfl, (hp_21).aft⟩

/-! ### (*selvage/selvageref16.state).address: function 48 -/
def selvageref16_state_address.m (a0 : selvageref16_state) (a1 : api_Inst) : Option selvageref16_Cell :=
 (if (!decide (a1.A = 0)) = true then (if 0 ≤ a1.A ∧ a1.A < (32 : Int) then (some ((vg a0.regs a1.A).N, (vg a0.regs a1.A).Hang)) else none) else (some (0, ([] : List Int))) : Option (Int × (List Int))).bind fun o_31 => if ((decide (a1.Op = 10)) || (decide (a1.Op = 11))) = true then (some (⟨wrap64 (o_31.1 + a1.Imm), o_31.2⟩ : selvageref16_Cell)) else (if 0 ≤ a1.B ∧ a1.B < (32 : Int) then ((selvageref16_join.m o_31.2 ((vg a0.regs a1.B).Hang)).bind fun r_72 => (some (⟨wrap64 (o_31.1 + ((vg a0.regs a1.B).N)), r_72⟩ : selvageref16_Cell))) else none)
set_option maxHeartbeats 4000000 in
set_option maxRecDepth 100000 in
theorem selvageref16_state_address.calls (a0 : selvageref16_state) (b_1 : Nat) (cs_2 : List Value) (cs_4 : List Value) (A_6 : Option Addr) (c_7 : Nat) (A_9 : Option Addr) (c_10 : Nat) (A_12 : Option Addr) (c_13 : Nat) (A_15 : Option Addr) (c_16 : Nat) (X_18 : Rsc) (A_19 : Option Addr) (c_20 : Nat) (a1 : api_Inst) (r : selvageref16_Cell) (w : World) (F : Nat → Prop) (hF : ∀ k, F k → Off w [[(b_1, .cells (([] : List Value) ++ (cs_2 ++ (([] : List Value) ++ (cs_4 ++ ([.int .i64 a0.cmp.N, .slice A_6 a0.cmp.Hang.length c_7, .slice A_9 a0.ctrl.length c_10, .slice A_12 a0.fenced.length c_13, .int .i64 a0.hold, .int .i64 a0.held, .slice A_15 a0.events.length c_16, .slice A_19 a0.answers.length c_20, .int .i64 a0.locs, .int .i64 a0.base] : List Value))))).toArray 71 (0, 0))], X_18] k) (hX : Have w [[(b_1, .cells (([] : List Value) ++ (cs_2 ++ (([] : List Value) ++ (cs_4 ++ ([.int .i64 a0.cmp.N, .slice A_6 a0.cmp.Hang.length c_7, .slice A_9 a0.ctrl.length c_10, .slice A_12 a0.fenced.length c_13, .int .i64 a0.hold, .int .i64 a0.held, .slice A_15 a0.events.length c_16, .slice A_19 a0.answers.length c_20, .int .i64 a0.locs, .int .i64 a0.base] : List Value))))).toArray 71 (0, 0))], X_18]) (q_3 : Reps selvageref16_Cell_E F w a0.regs.toList cs_2) (q_5 : Reps selvageref16_Cell_E F w a0.stack.toList cs_4) (q_8 : RdS (intE .i64) F w A_6 c_7 a0.cmp.Hang) (q_11 : RdS (intE .i64) F w A_9 c_10 a0.ctrl) (q_14 : RdS (intE .i64) F w A_12 c_13 a0.fenced) (q_17 : Own api_Event_E no wz 33 A_15 c_16 a0.events X_18) (q_21 : RdS (intE .i64) F w A_19 c_20 a0.answers) (H : selvageref16_state_address.m a0 a1 = some r) :
 Ret Try.prog 48 [.pointer (some ⟨b_1, 0, none⟩), .agg #[.int .i64 a1.Op, .int .i64 a1.T, .int .i64 a1.A, .int .i64 a1.B, .int .i64 a1.Imm]] w fun v w' => ∃ (I_ : Nat → Prop) (A_1099 : Option Addr) (c_1100 : Nat), v = .agg #[.int .i64 r.N, .slice A_1099 r.Hang.length c_1100] ∧ RdS (intE .i64) I_ w' A_1099 c_1100 r.Hang ∧ Frz F [[(b_1, .cells (([] : List Value) ++ (cs_2 ++ (([] : List Value) ++ (cs_4 ++ ([.int .i64 a0.cmp.N, .slice A_6 a0.cmp.Hang.length c_7, .slice A_9 a0.ctrl.length c_10, .slice A_12 a0.fenced.length c_13, .int .i64 a0.hold, .int .i64 a0.held, .slice A_15 a0.events.length c_16, .slice A_19 a0.answers.length c_20, .int .i64 a0.locs, .int .i64 a0.base] : List Value))))).toArray 71 (0, 0))], X_18] w I_ w' [[(b_1, .cells (([] : List Value) ++ (cs_2 ++ (([] : List Value) ++ (cs_4 ++ ([.int .i64 a0.cmp.N, .slice A_6 a0.cmp.Hang.length c_7, .slice A_9 a0.ctrl.length c_10, .slice A_12 a0.fenced.length c_13, .int .i64 a0.hold, .int .i64 a0.held, .slice A_15 a0.events.length c_16, .slice A_19 a0.answers.length c_20, .int .i64 a0.locs, .int .i64 a0.base] : List Value))))).toArray 71 (0, 0))], X_18] ∧ Aft w w' [[(b_1, .cells (([] : List Value) ++ (cs_2 ++ (([] : List Value) ++ (cs_4 ++ ([.int .i64 a0.cmp.N, .slice A_6 a0.cmp.Hang.length c_7, .slice A_9 a0.ctrl.length c_10, .slice A_12 a0.fenced.length c_13, .int .i64 a0.hold, .int .i64 a0.held, .slice A_15 a0.events.length c_16, .slice A_19 a0.answers.length c_20, .int .i64 a0.locs, .int .i64 a0.base] : List Value))))).toArray 71 (0, 0))], X_18] [[(b_1, .cells (([] : List Value) ++ (cs_2 ++ (([] : List Value) ++ (cs_4 ++ ([.int .i64 a0.cmp.N, .slice A_6 a0.cmp.Hang.length c_7, .slice A_9 a0.ctrl.length c_10, .slice A_12 a0.fenced.length c_13, .int .i64 a0.hold, .int .i64 a0.held, .slice A_15 a0.events.length c_16, .slice A_19 a0.answers.length c_20, .int .i64 a0.locs, .int .i64 a0.base] : List Value))))).toArray 71 (0, 0))], X_18] := by
 unfold selvageref16_state_address.m at H
 have hp0 := Hp.startR hX hF
 have ep0 := Ep.refl F [[(b_1, .cells (([] : List Value) ++ (cs_2 ++ (([] : List Value) ++ (cs_4 ++ ([.int .i64 a0.cmp.N, .slice A_6 a0.cmp.Hang.length c_7, .slice A_9 a0.ctrl.length c_10, .slice A_12 a0.fenced.length c_13, .int .i64 a0.hold, .int .i64 a0.held, .slice A_15 a0.events.length c_16, .slice A_19 a0.answers.length c_20, .int .i64 a0.locs, .int .i64 a0.base] : List Value))))).toArray 71 (0, 0))], X_18] w
 refine enter (L := [(0, .pointer (some ⟨b_1, 0, none⟩)), (1, .agg #[.int .i64 a1.Op, .int .i64 a1.T, .int .i64 a1.A, .int .i64 a1.B, .int .i64 a1.Imm])]) Try.func48 rfl Try.ntmps48 rfl rfl ?_
 refine k_seq ?_
 refine k_region ?_
 refine s_box (l := [.int .i64 a1.Op, .int .i64 a1.T, .int .i64 a1.A, .int .i64 a1.B, .int .i64 a1.Imm]) hp0 (tm rfl rfl) rfl rfl (fun b_22 w_23 hp_24 => ?_)
 refine s_alloc (zv := .agg #[.int .i64 0, .slice none 0 0]) (l := [.int .i64 0, .slice none 0 0]) hp_24 (by intro w_; kernel_rfl) rfl rfl (fun b_25 w_26 hp_27 => ?_)
 refine k_nil ?_
 refine k_seq ?_
 refine k_region ?_
 refine s_alloc (zv := .agg #[.int .i64 0, .slice none 0 0]) (l := [.int .i64 0, .slice none 0 0]) hp_27 (by intro w_; kernel_rfl) rfl rfl (fun b_28 w_29 hp_30 => ?_)
 refine k_nil ?_
 refine k_seq ?_
 refine kq tb hp_30 [(3, 2, 0)] [(8, .bool (!decide (a1.A = 0)))] (by kernel_rfl) fun σ => ?_
 obtain ⟨o_31, H, G_32⟩ := bindSome H
 refine k_cut (fun a w' => ∃ (σ_99 : Nat → Value) (A_103 : Option Addr) (c_104 : Nat), a = st 55 [(0, .pointer (some ⟨b_1, 0, none⟩)), (3, .pointer (some ⟨b_22, 0, none⟩)), (4, .pointer (some ⟨b_25, 0, none⟩)), (5, .pointer (some ⟨b_28, 0, none⟩))] σ_99 [] ∧ Hp (On [[(b_1, .cells (([] : List Value) ++ (cs_2 ++ (([] : List Value) ++ (cs_4 ++ ([.int .i64 a0.cmp.N, .slice A_6 a0.cmp.Hang.length c_7, .slice A_9 a0.ctrl.length c_10, .slice A_12 a0.fenced.length c_13, .int .i64 a0.hold, .int .i64 a0.held, .slice A_15 a0.events.length c_16, .slice A_19 a0.answers.length c_20, .int .i64 a0.locs, .int .i64 a0.base] : List Value))))).toArray 71 (0, 0))], X_18]) F w w w' [[(b_1, .cells (([] : List Value) ++ (cs_2 ++ (([] : List Value) ++ (cs_4 ++ ([.int .i64 a0.cmp.N, .slice A_6 a0.cmp.Hang.length c_7, .slice A_9 a0.ctrl.length c_10, .slice A_12 a0.fenced.length c_13, .int .i64 a0.hold, .int .i64 a0.held, .slice A_15 a0.events.length c_16, .slice A_19 a0.answers.length c_20, .int .i64 a0.locs, .int .i64 a0.base] : List Value))))).toArray 71 (0, 0))], X_18, [(b_22, .cells #[.int .i64 a1.Op, .int .i64 a1.T, .int .i64 a1.A, .int .i64 a1.B, .int .i64 a1.Imm] 44 (0, 0))], [(b_25, .cells #[.int .i64 0, .slice none 0 0] 67 (0, 0))], [(b_28, .cells #[.int .i64 o_31.1, .slice A_103 o_31.2.length c_104] 67 (0, 0))]] ∧ RdS (intE .i64) F w A_103 c_104 o_31.2) ?_ ?_
 ·refine k_if (tm rfl rfl) (fun h_33 => ?_) (fun h_33 => ?_)
  ·have H := ift h_33 H
   refine k_anyF [[0, 1, 2, 3, 4], [0, 1, 2, 3, 4], [0, 1, 2, 3, 4], [0, 1, 2, 3, 4], [0, 1, 2, 3, 4], [0, 1, 2, 3, 4], [0, 1, 2, 3, 4], [0, 1, 2, 3]] [0, 0, 2, 1, 9, 31, 63, 127] mixed hp_30 8 (by kernel_rfl) (fun w_34 hp_35 => ?_)
   obtain ⟨g_36, H⟩ := grd H
   obtain ⟨cs_41, rp_40, q_42⟩ := arr_elem q_3 g_36
   obtain ⟨A_37, c_38, rfl, q_39⟩ := rp_40
   refine w_takes (f := 1) tb [0, 1, 2, 3, 4] (Wp.of hp_35 [0, 1, 2, 3, 4] rfl) [⟨_, _, [0], fun w h => arr_at (pre := ([] : List Value)) (post := ([] : List Value) ++ (cs_4 ++ ([.int .i64 a0.cmp.N, .slice A_6 a0.cmp.Hang.length c_7, .slice A_9 a0.ctrl.length c_10, .slice A_12 a0.fenced.length c_13, .int .i64 a0.hold, .int .i64 a0.held, .slice A_15 a0.events.length c_16, .slice A_19 a0.answers.length c_20, .int .i64 a0.locs, .int .i64 a0.base] : List Value))) (h.get (i := 0) (j := 0) rfl rfl) rfl rfl q_42⟩] [.a 14 5 b_1 0 _ _ g_36] [] [(0, 0, 0), (3, 2, 0)] [] [0, 1, 3, 4, 2, 5, 6] 127 [(15, .agg #[.int .i64 ((vg a0.regs a1.A).N), .slice A_37 ((vg a0.regs a1.A).Hang).length c_38])] (fun _ => (po_then po_body)) rfl rfl (by kernel_rfl) fun σ => ?_
   refine w_one (m' := 255) 7 rfl (by kernel_rfl) (by kernel_rfl) ?_
   refine s_store (i := 4) (j := 0) (vs := [.int .i64 ((vg a0.regs a1.A).N), .slice A_37 ((vg a0.regs a1.A).Hang).length c_38]) (l' := [.int .i64 ((vg a0.regs a1.A).N), .slice A_37 ((vg a0.regs a1.A).Hang).length c_38]) hp_35 (tm rfl rfl) (tm rfl rfl) rfl Try.sizeOf67 rfl rfl rfl rfl rfl rfl (fun w_43 hp_44 => ?_)
   refine k_nil ?_
   refine ⟨(Wp.of hp_44 [0, 1, 2, 3] rfl), ?_⟩
   refine w_done (by kernel_rfl) ?_
   obtain rfl := Option.some.inj H
   exact ⟨_, A_37, c_38, seenF ⟨rfl, rfl, rfl, rfl, trivial⟩, hp_44, q_39⟩
  have H := iff_ h_33 H
  refine k_skip ?_
  obtain rfl := Option.some.inj H
  exact ⟨_, none, 0, seenF ⟨rfl, rfl, rfl, rfl, trivial⟩, hp_30, (RdS.nil _ _)⟩
 clear H
 rintro a w' ⟨σ_45, A_49, c_50, rfl, hp_46, q_51⟩
 have H := G_32
 refine k_seq ?_
 refine kq tb hp_46 [(3, 2, 0)] [(23, .bool ((decide (a1.Op = 10)) || (decide (a1.Op = 11))))] (by kernel_rfl) fun σ => ?_
 refine k_if (tm rfl rfl) (fun h_52 => ?_) (fun h_52 => ?_)
 ·have H := ift h_52 H
  refine k_seq ?_
  refine k_region ?_
  refine sr tb hp_46 [(3, 2, 0), (5, 4, 0)] 8 [(31, .agg #[.int .i64 (wrap64 (o_31.1 + a1.Imm)), .slice A_49 o_31.2.length c_50])] (by kernel_rfl) fun σ => ?_
  refine s_store (i := 3) (j := 0) (vs := [.int .i64 (wrap64 (o_31.1 + a1.Imm)), .slice A_49 o_31.2.length c_50]) (l' := [.int .i64 (wrap64 (o_31.1 + a1.Imm)), .slice A_49 o_31.2.length c_50]) hp_46 (tm rfl rfl) (tm rfl rfl) rfl Try.sizeOf67 rfl rfl rfl rfl rfl rfl (fun w_53 hp_54 => ?_)
  refine k_nil ?_
  refine k_ret ?_
  obtain rfl := Option.some.inj H
  exact k_end rfl (.cell rfl rfl (r_loadA Try.isAgg67 Try.sizeOf67 rfl (cells_box (sz := 2) (hp_54.get (i := 3) (j := 0) rfl rfl) rfl)) .nil) rfl ⟨_, A_49, c_50, rfl, (RdS.now q_51 hp_54), (Ep.frz ep0 (hp_54.pick [0, 1] (by decide) rfl)), (hp_54.pick [0, 1] (by decide) rfl).aft⟩
 have H := iff_ h_52 H
 refine k_skip ?_
 refine k_seq ?_
 refine k_anyF [[0, 1, 2, 3, 4], [0, 1, 2, 3, 4], [0, 1, 2, 3, 4], [0, 1, 2, 3, 4], [0, 1, 2, 3, 4], [0, 1, 2, 3, 4], [0, 1, 2, 3, 4], [0, 1, 2, 3, 4], [0, 1, 2, 3, 4], [0, 1, 2, 3, 4], [0, 1, 2, 3, 4], [0, 1, 2, 3, 4], [0, 1, 2, 3, 4], [0, 1, 2, 3, 4], [0, 1, 2, 3, 4], [0, 1, 2, 3, 4], [0, 1, 2, 3, 4], [0, 1, 2, 3, 4], [0, 1, 2, 3, 4], [0, 1, 2, 3, 4], [0, 1, 2, 3, 4], [0, 1, 2, 3, 4], [0, 1, 2, 3, 4], [0, 1, 2, 4]] [0, 1, 0, 0, 8, 4, 36, 124, 252, 508, 1023, 0, 2048, 0, 0, 16384, 8192, 73728, 253952, 516096, 1040384, 2095104, 4194303, 8388607] mixed hp_46 24 (by kernel_rfl) (fun w_55 hp_56 => ?_)
 obtain ⟨g_57, H⟩ := grd H
 obtain ⟨cs_62, rp_61, q_63⟩ := arr_elem q_3 g_57
 obtain ⟨A_58, c_59, rfl, q_60⟩ := rp_61
 obtain ⟨cs_68, rp_67, q_69⟩ := arr_elem q_3 g_57
 obtain ⟨A_64, c_65, rfl, q_66⟩ := rp_67
 refine w_takes (f := 3) tb [0, 1, 2, 3, 4] (Wp.of hp_56 [0, 1, 2, 3, 4] rfl) [⟨_, _, [0], fun w h => arr_at (pre := ([] : List Value)) (post := ([] : List Value) ++ (cs_4 ++ ([.int .i64 a0.cmp.N, .slice A_6 a0.cmp.Hang.length c_7, .slice A_9 a0.ctrl.length c_10, .slice A_12 a0.fenced.length c_13, .int .i64 a0.hold, .int .i64 a0.held, .slice A_15 a0.events.length c_16, .slice A_19 a0.answers.length c_20, .int .i64 a0.locs, .int .i64 a0.base] : List Value))) (h.get (i := 0) (j := 0) rfl rfl) rfl rfl q_63⟩, ⟨_, _, [0], fun w h => arr_at (pre := ([] : List Value)) (post := ([] : List Value) ++ (cs_4 ++ ([.int .i64 a0.cmp.N, .slice A_6 a0.cmp.Hang.length c_7, .slice A_9 a0.ctrl.length c_10, .slice A_12 a0.fenced.length c_13, .int .i64 a0.hold, .int .i64 a0.held, .slice A_15 a0.events.length c_16, .slice A_19 a0.answers.length c_20, .int .i64 a0.locs, .int .i64 a0.base] : List Value))) (h.get (i := 0) (j := 0) rfl rfl) rfl rfl q_69⟩] [.a 39 5 b_1 0 _ _ g_57, .a 50 6 b_1 0 _ _ g_57] [] [(0, 0, 0), (3, 2, 0), (5, 4, 0)] [] [0, 2, 3, 5, 6, 11, 13, 14, 16, 17, 1, 4, 7, 8, 9, 10, 12, 15, 18, 19, 20] 2097151 [(42, .int .i64 (wrap64 (o_31.1 + ((vg a0.regs a1.B).N)))), (44, .slice A_49 o_31.2.length c_50), (52, .slice A_64 ((vg a0.regs a1.B).Hang).length c_65)] (fun _ => (po_then po_body)) rfl rfl (by kernel_rfl) fun σ => ?_
 refine w_one (m' := 4194303) 21 rfl (by kernel_rfl) (by kernel_rfl) ?_
 obtain ⟨r_72, hx_71, H⟩ := bindSome H
 refine s_call (.cons (tm rfl rfl) (.cons (tm rfl rfl) .nil)) Try.call25 (selvageref16_join.calls o_31.2 A_49 c_50 ((vg a0.regs a1.B).Hang) A_64 c_65 r_72 _ _ (Hp.offCov hp_56 [] [[(b_1, .cells (([] : List Value) ++ (cs_2 ++ (([] : List Value) ++ (cs_4 ++ ([.int .i64 a0.cmp.N, .slice A_6 a0.cmp.Hang.length c_7, .slice A_9 a0.ctrl.length c_10, .slice A_12 a0.fenced.length c_13, .int .i64 a0.hold, .int .i64 a0.held, .slice A_15 a0.events.length c_16, .slice A_19 a0.answers.length c_20, .int .i64 a0.locs, .int .i64 a0.base] : List Value))))).toArray 71 (0, 0))], X_18, [(b_22, .cells #[.int .i64 a1.Op, .int .i64 a1.T, .int .i64 a1.A, .int .i64 a1.B, .int .i64 a1.Imm] 44 (0, 0))], [(b_25, .cells #[.int .i64 0, .slice none 0 0] 67 (0, 0))], [(b_28, .cells #[.int .i64 o_31.1, .slice A_49 o_31.2.length c_50] 67 (0, 0))]] rfl) (RdS.pass q_51 hp_56) (RdS.pass q_66 hp_56) hx_71) rfl ?_
 rintro v_ w_73 ⟨A_77, c_78, X_80, rfl, q_79, af_76⟩
 have hp_74 := Hp.callA af_76 hp_56
 refine k_nil ?_
 refine ⟨(Wp.of hp_74 [1, 2, 3, 4, 5] rfl), ?_⟩
 refine w_take (m' := 8388607) (v := .agg #[.int .i64 (wrap64 (o_31.1 + ((vg a0.regs a1.B).N))), .slice A_77 r_72.length c_78]) 22 rfl rfl (by kernel_rfl) (by kernel_rfl) (by kernel_rfl) (by kernel_rfl) (by kernel_rfl) (by kernel_rfl) (by kernel_rfl) (po_then po_body) (Wp.of hp_74 [1, 2, 3, 4, 5] rfl) (y_val (fun w_ hW_ => e_build (vs := [(0, .int .i64 (wrap64 (o_31.1 + ((vg a0.regs a1.B).N)))), (1, .slice A_77 r_72.length c_78)]) (cs := [.int .i64 (wrap64 (o_31.1 + ((vg a0.regs a1.B).N))), .slice A_77 r_72.length c_78]) (.cons (tm rfl rfl) (.cons (tm rfl rfl) .nil)) (by kernel_rfl))) ?_
 refine w_one (m' := 16777215) 23 rfl (by kernel_rfl) (by kernel_rfl) ?_
 refine s_store (i := 4) (j := 0) (vs := [.int .i64 (wrap64 (o_31.1 + ((vg a0.regs a1.B).N))), .slice A_77 r_72.length c_78]) (l' := [.int .i64 (wrap64 (o_31.1 + ((vg a0.regs a1.B).N))), .slice A_77 r_72.length c_78]) hp_74 (tm rfl rfl) (tm rfl rfl) rfl Try.sizeOf67 rfl rfl rfl rfl rfl rfl (fun w_81 hp_82 => ?_)
 refine k_nil ?_
 refine ⟨(Wp.of hp_82 [1, 2, 3, 5] rfl), ?_⟩
 refine w_done (by kernel_rfl) ?_
 refine k_ret ?_
 have hp_83 := Hp.pick (R' := [X_80, [(b_1, .cells (([] : List Value) ++ (cs_2 ++ (([] : List Value) ++ (cs_4 ++ ([.int .i64 a0.cmp.N, .slice A_6 a0.cmp.Hang.length c_7, .slice A_9 a0.ctrl.length c_10, .slice A_12 a0.fenced.length c_13, .int .i64 a0.hold, .int .i64 a0.held, .slice A_15 a0.events.length c_16, .slice A_19 a0.answers.length c_20, .int .i64 a0.locs, .int .i64 a0.base] : List Value))))).toArray 71 (0, 0))], X_18, [(b_22, .cells #[.int .i64 a1.Op, .int .i64 a1.T, .int .i64 a1.A, .int .i64 a1.B, .int .i64 a1.Imm] 44 (0, 0))], [(b_25, .cells #[.int .i64 (wrap64 (o_31.1 + ((vg a0.regs a1.B).N))), .slice A_77 r_72.length c_78] 67 (0, 0))], [(b_28, .cells #[.int .i64 o_31.1, .slice A_49 o_31.2.length c_50] 67 (0, 0))]]) [0, 1, 2, 3, 4, 5] hp_82 (by decide) rfl
 have q_87 := (Own.any q_79).froze hp_83
 have ep_86 := ep0.freeze hp_83
 have u_85 := hp_83.frozenUp
 have hp_84 := hp_83.freeze
 have q_89 := q_60.up u_85
 have q_90 := q_51.up u_85
 have q_91 := q_66.up u_85
 have q_92 := q_3.up u_85
 have q_93 := q_5.up u_85
 have q_94 := q_8.up u_85
 have q_95 := q_11.up u_85
 have q_96 := q_14.up u_85
 have q_97 := q_21.up u_85
 obtain rfl := Option.some.inj H
 exact k_end rfl (.cell rfl rfl (r_loadA Try.isAgg67 Try.sizeOf67 rfl (cells_box (sz := 2) (hp_84.get (i := 3) (j := 0) rfl rfl) rfl)) .nil) rfl ⟨_, A_77, c_78, rfl, q_87, (Ep.frz ep_86 (hp_84.pick [0, 1] (by decide) rfl)), (hp_84.pick [0, 1] (by decide) rfl).aft⟩

/-! ### (*selvage/selvageref16.state).where: function 49 -/
def selvageref16_state_where.l0 (a0 : selvageref16_state) (a1 : Int) (x_25 : Int) : Option (Int ⊕ (Unit ⊕ (Int × Int))) :=
 if (decide (x_25 < a0.locs)) = true then (if (decide (a1 = (wrap64 (65536 + (wrap64 (8 * x_25)))))) = true then (((some (1, x_25)).map Sum.inr).map Sum.inr) else (some (Sum.inl (wrap64 (x_25 + 1))))) else ((some (Sum.inl ())).map Sum.inr)
def selvageref16_state_where.l1 (a0 : selvageref16_state) (a1 : Int) (x_41 : Int) : Option (Int ⊕ (Unit ⊕ (Int × Int))) :=
 if (decide (x_41 < 400)) = true then (if (decide (a1 = (wrap64 (a0.base + (wrap64 (8 * x_41)))))) = true then (((some (2, x_41)).map Sum.inr).map Sum.inr) else (some (Sum.inl (wrap64 (x_41 + 1))))) else ((some (Sum.inl ())).map Sum.inr)
def selvageref16_state_where.m (a0 : selvageref16_state) (a1 : Int) : Option (Int × Int) :=
 (loop (selvageref16_state_where.l0 a0 a1) 0 : Option (Unit ⊕ (Int × Int))).bind fun o_22 => match o_22 with | .inl s_24 => ((loop (selvageref16_state_where.l1 a0 a1) 0 : Option (Unit ⊕ (Int × Int))).bind fun o_38 => match o_38 with | .inl s_40 => (some (0, 0)) | .inr r_54 => some r_54) | .inr r_55 => some r_55
set_option maxHeartbeats 4000000 in
set_option maxRecDepth 100000 in
theorem selvageref16_state_where.calls (a0 : selvageref16_state) (b_1 : Nat) (cs_2 : List Value) (cs_4 : List Value) (A_6 : Option Addr) (c_7 : Nat) (A_9 : Option Addr) (c_10 : Nat) (A_12 : Option Addr) (c_13 : Nat) (A_15 : Option Addr) (c_16 : Nat) (X_18 : Rsc) (A_19 : Option Addr) (c_20 : Nat) (a1 : Int) (r : Int × Int) (w : World) (F : Nat → Prop) (hF : ∀ k, F k → Off w [[(b_1, .cells (([] : List Value) ++ (cs_2 ++ (([] : List Value) ++ (cs_4 ++ ([.int .i64 a0.cmp.N, .slice A_6 a0.cmp.Hang.length c_7, .slice A_9 a0.ctrl.length c_10, .slice A_12 a0.fenced.length c_13, .int .i64 a0.hold, .int .i64 a0.held, .slice A_15 a0.events.length c_16, .slice A_19 a0.answers.length c_20, .int .i64 a0.locs, .int .i64 a0.base] : List Value))))).toArray 71 (0, 0))], X_18] k) (hX : Have w [[(b_1, .cells (([] : List Value) ++ (cs_2 ++ (([] : List Value) ++ (cs_4 ++ ([.int .i64 a0.cmp.N, .slice A_6 a0.cmp.Hang.length c_7, .slice A_9 a0.ctrl.length c_10, .slice A_12 a0.fenced.length c_13, .int .i64 a0.hold, .int .i64 a0.held, .slice A_15 a0.events.length c_16, .slice A_19 a0.answers.length c_20, .int .i64 a0.locs, .int .i64 a0.base] : List Value))))).toArray 71 (0, 0))], X_18]) (q_3 : Reps selvageref16_Cell_E F w a0.regs.toList cs_2) (q_5 : Reps selvageref16_Cell_E F w a0.stack.toList cs_4) (q_8 : RdS (intE .i64) F w A_6 c_7 a0.cmp.Hang) (q_11 : RdS (intE .i64) F w A_9 c_10 a0.ctrl) (q_14 : RdS (intE .i64) F w A_12 c_13 a0.fenced) (q_17 : Own api_Event_E no wz 33 A_15 c_16 a0.events X_18) (q_21 : RdS (intE .i64) F w A_19 c_20 a0.answers) (H : selvageref16_state_where.m a0 a1 = some r) :
 Ret Try.prog 49 [.pointer (some ⟨b_1, 0, none⟩), .int .i64 a1] w fun v w' => v = .tuple #[.int .i64 r.1, .int .i64 r.2] ∧ Aft w w' [[(b_1, .cells (([] : List Value) ++ (cs_2 ++ (([] : List Value) ++ (cs_4 ++ ([.int .i64 a0.cmp.N, .slice A_6 a0.cmp.Hang.length c_7, .slice A_9 a0.ctrl.length c_10, .slice A_12 a0.fenced.length c_13, .int .i64 a0.hold, .int .i64 a0.held, .slice A_15 a0.events.length c_16, .slice A_19 a0.answers.length c_20, .int .i64 a0.locs, .int .i64 a0.base] : List Value))))).toArray 71 (0, 0))], X_18] [[(b_1, .cells (([] : List Value) ++ (cs_2 ++ (([] : List Value) ++ (cs_4 ++ ([.int .i64 a0.cmp.N, .slice A_6 a0.cmp.Hang.length c_7, .slice A_9 a0.ctrl.length c_10, .slice A_12 a0.fenced.length c_13, .int .i64 a0.hold, .int .i64 a0.held, .slice A_15 a0.events.length c_16, .slice A_19 a0.answers.length c_20, .int .i64 a0.locs, .int .i64 a0.base] : List Value))))).toArray 71 (0, 0))], X_18] := by
 unfold selvageref16_state_where.m at H
 have hp0 := Hp.startR hX hF
 have ep0 := Ep.refl F [[(b_1, .cells (([] : List Value) ++ (cs_2 ++ (([] : List Value) ++ (cs_4 ++ ([.int .i64 a0.cmp.N, .slice A_6 a0.cmp.Hang.length c_7, .slice A_9 a0.ctrl.length c_10, .slice A_12 a0.fenced.length c_13, .int .i64 a0.hold, .int .i64 a0.held, .slice A_15 a0.events.length c_16, .slice A_19 a0.answers.length c_20, .int .i64 a0.locs, .int .i64 a0.base] : List Value))))).toArray 71 (0, 0))], X_18] w
 refine enter (L := [(0, .pointer (some ⟨b_1, 0, none⟩)), (1, .int .i64 a1)]) Try.func49 rfl Try.ntmps49 rfl rfl ?_
 refine kq tb hp0 [] [] (by kernel_rfl) fun σ => ?_
 refine k_seq ?_
 refine kq tb hp0 [] [(6, .int .i64 0)] (by kernel_rfl) fun σ => ?_
 obtain ⟨o_22, H, G_23⟩ := bindSome H
 refine k_cut (fun a w' => ∃ (s_24 : Unit) (σ_56 : Nat → Value), o_22 = Sum.inl s_24 ∧ a = st 36 [(0, .pointer (some ⟨b_1, 0, none⟩)), (1, .int .i64 a1)] σ_56 [] ∧ Hp (On [[(b_1, .cells (([] : List Value) ++ (cs_2 ++ (([] : List Value) ++ (cs_4 ++ ([.int .i64 a0.cmp.N, .slice A_6 a0.cmp.Hang.length c_7, .slice A_9 a0.ctrl.length c_10, .slice A_12 a0.fenced.length c_13, .int .i64 a0.hold, .int .i64 a0.held, .slice A_15 a0.events.length c_16, .slice A_19 a0.answers.length c_20, .int .i64 a0.locs, .int .i64 a0.base] : List Value))))).toArray 71 (0, 0))], X_18]) F w w w' [[(b_1, .cells (([] : List Value) ++ (cs_2 ++ (([] : List Value) ++ (cs_4 ++ ([.int .i64 a0.cmp.N, .slice A_6 a0.cmp.Hang.length c_7, .slice A_9 a0.ctrl.length c_10, .slice A_12 a0.fenced.length c_13, .int .i64 a0.hold, .int .i64 a0.held, .slice A_15 a0.events.length c_16, .slice A_19 a0.answers.length c_20, .int .i64 a0.locs, .int .i64 a0.base] : List Value))))).toArray 71 (0, 0))], X_18]) ?_ ?_
 ·as_aux_lemma =>
  refine k_block ?_
  refine k_lp (fun (x_25 : Int) a w' => ∃ (σ_34 : Nat → Value), a = st 36 [(0, .pointer (some ⟨b_1, 0, none⟩)), (1, .int .i64 a1), (6, .int .i64 x_25)] σ_34 [] ∧ Hp (On [[(b_1, .cells (([] : List Value) ++ (cs_2 ++ (([] : List Value) ++ (cs_4 ++ ([.int .i64 a0.cmp.N, .slice A_6 a0.cmp.Hang.length c_7, .slice A_9 a0.ctrl.length c_10, .slice A_12 a0.fenced.length c_13, .int .i64 a0.hold, .int .i64 a0.held, .slice A_15 a0.events.length c_16, .slice A_19 a0.answers.length c_20, .int .i64 a0.locs, .int .i64 a0.base] : List Value))))).toArray 71 (0, 0))], X_18]) F w w w' [[(b_1, .cells (([] : List Value) ++ (cs_2 ++ (([] : List Value) ++ (cs_4 ++ ([.int .i64 a0.cmp.N, .slice A_6 a0.cmp.Hang.length c_7, .slice A_9 a0.ctrl.length c_10, .slice A_12 a0.fenced.length c_13, .int .i64 a0.hold, .int .i64 a0.held, .slice A_15 a0.events.length c_16, .slice A_19 a0.answers.length c_20, .int .i64 a0.locs, .int .i64 a0.base] : List Value))))).toArray 71 (0, 0))], X_18]) H ⟨_, seenF ⟨rfl, rfl, rfl, trivial⟩, hp0⟩ ?_
  clear H
  rintro x_25 a w' z_ ⟨σ_28, rfl, hp_29⟩ H hz_26
  unfold selvageref16_state_where.l0 at H
  refine k_seq ?_
  refine kqx tb hp_29 [] [] [⟨0, 864, _, _, cells_box (sz := 10) (hp_29.get (i := 0) (j := 0) rfl rfl) (segs 0 864 10 rfl (segs 64 800 10 (arr_len q_3 rfl) (segs 0 800 10 rfl (segs 800 0 10 (arr_len q_5 rfl) rfl))))⟩] [(0, 0, 0)] [] [(13, .bool (decide (x_25 < a0.locs)))] (by kernel_rfl) fun σ => ?_
  refine k_if (tm rfl rfl) (fun h_32 => ?_) (fun h_32 => ?_)
  ·as_aux_lemma =>
   have H := ift h_32 H
   refine k_skip ?_
   refine k_seq ?_
   refine k_block ?_
   refine kq tb hp_29 [] [(20, .bool (decide (a1 = (wrap64 (65536 + (wrap64 (8 * x_25)))))))] (by kernel_rfl) fun σ => ?_
   refine k_if (tm rfl rfl) (fun h_33 => ?_) (fun h_33 => ?_)
   ·have H := ift h_33 H
    refine kq tb hp_29 [] [(4, .int .i64 1), (5, .int .i64 x_25)] (by kernel_rfl) fun σ => ?_
    refine k_ret ?_
    refine q_ret ?_
    refine q_ret ?_
    obtain ⟨v_, H', hv_⟩ := mapSome H
    have hv_ := hz_26 _ hv_
    subst hv_
    have H := H'
    clear H'
    obtain ⟨v_, H', hv_⟩ := mapSome H
    subst hv_
    have H := H'.trans (show some v_ = _ from G_23)
    obtain rfl := Option.some.inj H
    exact k_end rfl (.tmp rfl rfl (.tmp rfl rfl .nil)) rfl ⟨rfl, (hp_29).aft⟩
   have H := iff_ h_33 H
   refine k_skip ?_
   refine kr tb hp_29 [] [(6, .int .i64 (wrap64 (x_25 + 1)))] (by kernel_rfl) fun σ => ?_
   obtain rfl := Option.some.inj H
   exact ⟨_, rfl, ⟨_, seenF ⟨rfl, rfl, rfl, trivial⟩, hp_29⟩⟩
  have H := iff_ h_32 H
  refine k_exit ?_
  refine q_here ?_
  obtain ⟨v_, H', hv_⟩ := mapSome H
  have hv_ := hz_26 _ hv_
  subst hv_
  have H := H'
  clear H'
  obtain rfl := Option.some.inj H
  exact ⟨(), _, rfl, seenF ⟨rfl, rfl, trivial⟩, hp_29⟩
 clear H
 rintro a w' ⟨s_24, σ_34, rfl, rfl, hp_35⟩
 have H := G_23
 refine k_seq ?_
 refine kq tb hp_35 [] [(7, .int .i64 0)] (by kernel_rfl) fun σ => ?_
 obtain ⟨o_38, H, G_39⟩ := bindSome H
 refine k_cut (fun a w' => ∃ (s_40 : Unit) (σ_55 : Nat → Value), o_38 = Sum.inl s_40 ∧ a = st 36 [] σ_55 [] ∧ Hp (On [[(b_1, .cells (([] : List Value) ++ (cs_2 ++ (([] : List Value) ++ (cs_4 ++ ([.int .i64 a0.cmp.N, .slice A_6 a0.cmp.Hang.length c_7, .slice A_9 a0.ctrl.length c_10, .slice A_12 a0.fenced.length c_13, .int .i64 a0.hold, .int .i64 a0.held, .slice A_15 a0.events.length c_16, .slice A_19 a0.answers.length c_20, .int .i64 a0.locs, .int .i64 a0.base] : List Value))))).toArray 71 (0, 0))], X_18]) F w w w' [[(b_1, .cells (([] : List Value) ++ (cs_2 ++ (([] : List Value) ++ (cs_4 ++ ([.int .i64 a0.cmp.N, .slice A_6 a0.cmp.Hang.length c_7, .slice A_9 a0.ctrl.length c_10, .slice A_12 a0.fenced.length c_13, .int .i64 a0.hold, .int .i64 a0.held, .slice A_15 a0.events.length c_16, .slice A_19 a0.answers.length c_20, .int .i64 a0.locs, .int .i64 a0.base] : List Value))))).toArray 71 (0, 0))], X_18]) ?_ ?_
 ·as_aux_lemma =>
  refine k_block ?_
  refine k_lp (fun (x_41 : Int) a w' => ∃ (σ_50 : Nat → Value), a = st 36 [(0, .pointer (some ⟨b_1, 0, none⟩)), (1, .int .i64 a1), (7, .int .i64 x_41)] σ_50 [] ∧ Hp (On [[(b_1, .cells (([] : List Value) ++ (cs_2 ++ (([] : List Value) ++ (cs_4 ++ ([.int .i64 a0.cmp.N, .slice A_6 a0.cmp.Hang.length c_7, .slice A_9 a0.ctrl.length c_10, .slice A_12 a0.fenced.length c_13, .int .i64 a0.hold, .int .i64 a0.held, .slice A_15 a0.events.length c_16, .slice A_19 a0.answers.length c_20, .int .i64 a0.locs, .int .i64 a0.base] : List Value))))).toArray 71 (0, 0))], X_18]) F w w w' [[(b_1, .cells (([] : List Value) ++ (cs_2 ++ (([] : List Value) ++ (cs_4 ++ ([.int .i64 a0.cmp.N, .slice A_6 a0.cmp.Hang.length c_7, .slice A_9 a0.ctrl.length c_10, .slice A_12 a0.fenced.length c_13, .int .i64 a0.hold, .int .i64 a0.held, .slice A_15 a0.events.length c_16, .slice A_19 a0.answers.length c_20, .int .i64 a0.locs, .int .i64 a0.base] : List Value))))).toArray 71 (0, 0))], X_18]) H ⟨_, seenF ⟨rfl, rfl, rfl, trivial⟩, hp_35⟩ ?_
  clear H
  rintro x_41 a w' z_ ⟨σ_44, rfl, hp_45⟩ H hz_42
  unfold selvageref16_state_where.l1 at H
  refine k_seq ?_
  refine kq tb hp_45 [] [(23, .bool (decide (x_41 < 400)))] (by kernel_rfl) fun σ => ?_
  refine k_if (tm rfl rfl) (fun h_48 => ?_) (fun h_48 => ?_)
  ·as_aux_lemma =>
   have H := ift h_48 H
   refine k_skip ?_
   refine k_seq ?_
   refine k_block ?_
   refine kqx tb hp_45 [] [] [⟨0, 864, _, _, cells_box (sz := 10) (hp_45.get (i := 0) (j := 0) rfl rfl) (segs 0 864 10 rfl (segs 64 800 10 (arr_len q_3 rfl) (segs 0 800 10 rfl (segs 800 0 10 (arr_len q_5 rfl) rfl))))⟩] [(0, 0, 0)] [] [(34, .bool (decide (a1 = (wrap64 (a0.base + (wrap64 (8 * x_41)))))))] (by kernel_rfl) fun σ => ?_
   refine k_if (tm rfl rfl) (fun h_49 => ?_) (fun h_49 => ?_)
   ·have H := ift h_49 H
    refine kq tb hp_45 [] [(4, .int .i64 2), (5, .int .i64 x_41)] (by kernel_rfl) fun σ => ?_
    refine k_ret ?_
    refine q_ret ?_
    refine q_ret ?_
    obtain ⟨v_, H', hv_⟩ := mapSome H
    have hv_ := hz_42 _ hv_
    subst hv_
    have H := H'
    clear H'
    obtain ⟨v_, H', hv_⟩ := mapSome H
    subst hv_
    have H := H'.trans (show some v_ = _ from G_39)
    obtain rfl := Option.some.inj H
    exact k_end rfl (.tmp rfl rfl (.tmp rfl rfl .nil)) rfl ⟨rfl, (hp_45).aft⟩
   have H := iff_ h_49 H
   refine k_skip ?_
   refine kr tb hp_45 [] [(7, .int .i64 (wrap64 (x_41 + 1)))] (by kernel_rfl) fun σ => ?_
   obtain rfl := Option.some.inj H
   exact ⟨_, rfl, ⟨_, seenF ⟨rfl, rfl, rfl, trivial⟩, hp_45⟩⟩
  have H := iff_ h_48 H
  refine k_exit ?_
  refine q_here ?_
  obtain ⟨v_, H', hv_⟩ := mapSome H
  have hv_ := hz_42 _ hv_
  subst hv_
  have H := H'
  clear H'
  obtain rfl := Option.some.inj H
  exact ⟨(), _, rfl, seenF trivial, hp_45⟩
 clear H
 rintro a w' ⟨s_40, σ_50, rfl, rfl, hp_51⟩
 have H := G_39
 refine kq tb hp_51 [] [(4, .int .i64 0), (5, .int .i64 0)] (by kernel_rfl) fun σ => ?_
 refine k_ret ?_
 obtain rfl := Option.some.inj H
 exact k_end rfl (.tmp rfl rfl (.tmp rfl rfl .nil)) rfl ⟨rfl, (hp_51).aft⟩

/-! ### (*selvage/selvageref16.state).event: function 24 -/
def selvageref16_state_event.m (a0 : selvageref16_state) (a1 : api_Event) : Option (Bool × selvageref16_state) :=
 if (decide ((a0.events.length : Int) ≥ 64)) = true then (some (false, a0)) else ((selvageref16_mask.m a0.ctrl).bind fun r_30 => ((selvageref16_mask.m a0.fenced).bind fun r_37 => (if (a0.events.length + ([{ a1 with Ctrl := r_30, Fenced := r_37 }] : List api_Event).length) * 64 ≤ 140737488355328 then (some (true, { a0 with events := (a0.events ++ ([{ a1 with Ctrl := r_30, Fenced := r_37 }] : List api_Event)) })) else none)))
set_option maxHeartbeats 4000000 in
set_option maxRecDepth 100000 in
theorem selvageref16_state_event.calls (a0 : selvageref16_state) (b_1 : Nat) (cs_2 : List Value) (cs_4 : List Value) (A_6 : Option Addr) (c_7 : Nat) (A_9 : Option Addr) (c_10 : Nat) (A_12 : Option Addr) (c_13 : Nat) (A_15 : Option Addr) (c_16 : Nat) (X_18 : Rsc) (A_19 : Option Addr) (c_20 : Nat) (a1 : api_Event) (r : Bool × selvageref16_state) (w : World) (F : Nat → Prop) (hF : ∀ k, F k → Off w [[(b_1, .cells (([] : List Value) ++ (cs_2 ++ (([] : List Value) ++ (cs_4 ++ ([.int .i64 a0.cmp.N, .slice A_6 a0.cmp.Hang.length c_7, .slice A_9 a0.ctrl.length c_10, .slice A_12 a0.fenced.length c_13, .int .i64 a0.hold, .int .i64 a0.held, .slice A_15 a0.events.length c_16, .slice A_19 a0.answers.length c_20, .int .i64 a0.locs, .int .i64 a0.base] : List Value))))).toArray 71 (0, 0))], X_18] k) (hX : Have w [[(b_1, .cells (([] : List Value) ++ (cs_2 ++ (([] : List Value) ++ (cs_4 ++ ([.int .i64 a0.cmp.N, .slice A_6 a0.cmp.Hang.length c_7, .slice A_9 a0.ctrl.length c_10, .slice A_12 a0.fenced.length c_13, .int .i64 a0.hold, .int .i64 a0.held, .slice A_15 a0.events.length c_16, .slice A_19 a0.answers.length c_20, .int .i64 a0.locs, .int .i64 a0.base] : List Value))))).toArray 71 (0, 0))], X_18]) (q_3 : Reps selvageref16_Cell_E F w a0.regs.toList cs_2) (q_5 : Reps selvageref16_Cell_E F w a0.stack.toList cs_4) (q_8 : RdS (intE .i64) F w A_6 c_7 a0.cmp.Hang) (q_11 : RdS (intE .i64) F w A_9 c_10 a0.ctrl) (q_14 : RdS (intE .i64) F w A_12 c_13 a0.fenced) (q_17 : Own api_Event_E no wz 33 A_15 c_16 a0.events X_18) (q_21 : RdS (intE .i64) F w A_19 c_20 a0.answers) (H : selvageref16_state_event.m a0 a1 = some r) :
 Ret Try.prog 24 [.pointer (some ⟨b_1, 0, none⟩), .agg #[.int .i64 a1.Kind, .int .i64 a1.Loc, .int .i64 a1.Val, .int .i64 a1.Pair, .int .u64 a1.Addr, .int .u64 a1.Data, .int .u64 a1.Ctrl, .int .u64 a1.Fenced]] w fun v w' => ∃ (cs_1063 : List Value) (cs_1065 : List Value) (A_1070 : Option Addr) (c_1071 : Nat) (X_1073 : Rsc), v = .bool r.1 ∧ Reps selvageref16_Cell_E F w r.2.regs.toList cs_1063 ∧ Reps selvageref16_Cell_E F w r.2.stack.toList cs_1065 ∧ RdS (intE .i64) F w A_6 c_7 r.2.cmp.Hang ∧ RdS (intE .i64) F w A_9 c_10 r.2.ctrl ∧ RdS (intE .i64) F w A_12 c_13 r.2.fenced ∧ Own api_Event_E no wz 33 A_1070 c_1071 r.2.events X_1073 ∧ RdS (intE .i64) F w A_19 c_20 r.2.answers ∧ Aft w w' [[(b_1, .cells (([] : List Value) ++ (cs_2 ++ (([] : List Value) ++ (cs_4 ++ ([.int .i64 a0.cmp.N, .slice A_6 a0.cmp.Hang.length c_7, .slice A_9 a0.ctrl.length c_10, .slice A_12 a0.fenced.length c_13, .int .i64 a0.hold, .int .i64 a0.held, .slice A_15 a0.events.length c_16, .slice A_19 a0.answers.length c_20, .int .i64 a0.locs, .int .i64 a0.base] : List Value))))).toArray 71 (0, 0))], X_18] [[(b_1, .cells (([] : List Value) ++ (cs_1063 ++ (([] : List Value) ++ (cs_1065 ++ ([.int .i64 r.2.cmp.N, .slice A_6 r.2.cmp.Hang.length c_7, .slice A_9 r.2.ctrl.length c_10, .slice A_12 r.2.fenced.length c_13, .int .i64 r.2.hold, .int .i64 r.2.held, .slice A_1070 r.2.events.length c_1071, .slice A_19 r.2.answers.length c_20, .int .i64 r.2.locs, .int .i64 r.2.base] : List Value))))).toArray 71 (0, 0))], X_1073] := by
 unfold selvageref16_state_event.m at H
 have hp0 := Hp.startR hX hF
 have ep0 := Ep.refl F [[(b_1, .cells (([] : List Value) ++ (cs_2 ++ (([] : List Value) ++ (cs_4 ++ ([.int .i64 a0.cmp.N, .slice A_6 a0.cmp.Hang.length c_7, .slice A_9 a0.ctrl.length c_10, .slice A_12 a0.fenced.length c_13, .int .i64 a0.hold, .int .i64 a0.held, .slice A_15 a0.events.length c_16, .slice A_19 a0.answers.length c_20, .int .i64 a0.locs, .int .i64 a0.base] : List Value))))).toArray 71 (0, 0))], X_18] w
 refine enter (L := [(0, .pointer (some ⟨b_1, 0, none⟩)), (1, .agg #[.int .i64 a1.Kind, .int .i64 a1.Loc, .int .i64 a1.Val, .int .i64 a1.Pair, .int .u64 a1.Addr, .int .u64 a1.Data, .int .u64 a1.Ctrl, .int .u64 a1.Fenced])]) Try.func24 rfl Try.ntmps24 rfl rfl ?_
 refine k_seq ?_
 refine k_region ?_
 refine s_box (l := [.int .i64 a1.Kind, .int .i64 a1.Loc, .int .i64 a1.Val, .int .i64 a1.Pair, .int .u64 a1.Addr, .int .u64 a1.Data, .int .u64 a1.Ctrl, .int .u64 a1.Fenced]) hp0 (tm rfl rfl) rfl rfl (fun b_22 w_23 hp_24 => ?_)
 refine sv (v := .bool false) rfl rfl rfl (e_assign rfl) ?_
 refine k_nil ?_
 refine k_seq ?_
 refine kqx tb hp_24 [] [] [⟨0, 864, _, _, cells_box (sz := 10) (hp_24.get (i := 0) (j := 0) rfl rfl) (segs 0 864 10 rfl (segs 64 800 10 (arr_len q_3 rfl) (segs 0 800 10 rfl (segs 800 0 10 (arr_len q_5 rfl) rfl))))⟩] [(0, 0, 0)] [] [(10, .bool (decide ((a0.events.length : Int) ≥ 64)))] (by kernel_rfl) fun σ => ?_
 refine k_if (tm rfl rfl) (fun h_25 => ?_) (fun h_25 => ?_)
 ·have H := ift h_25 H
  refine kq tb hp_24 [] [(4, .bool false)] (by kernel_rfl) fun σ => ?_
  refine k_ret ?_
  obtain rfl := Option.some.inj H
  exact k_end rfl (.tmp rfl rfl .nil) rfl ⟨cs_2, cs_4, A_15, c_16, X_18, rfl, q_3, q_5, q_8, q_11, q_14, q_17, q_21, (hp_24.pick [0, 1] (by decide) rfl).aft⟩
 have H := iff_ h_25 H
 refine k_skip ?_
 refine k_seq ?_
 refine k_anyF [[0, 1, 2], [0, 1, 2], [0, 1, 2], [0, 1, 2], [0, 1, 2], [0, 1, 2], [0, 1, 2], [0, 1, 2], [0, 1, 2], [0, 1, 2], [0, 1, 2], [0, 1], [0, 1], [0, 1]] [0, 1, 3, 7, 15, 0, 32, 96, 224, 511, 31, 2047, 4095, 8191] mixed hp_24 14 (by kernel_rfl) (fun w_26 hp_27 => ?_)
 refine w_takes (f := 6) tb [0, 1, 2] (Wp.of hp_27 [0, 1, 2] rfl) [] [] [⟨0, 864, _, _, [0], fun w h => cells_box (sz := 10) (h.get (i := 0) (j := 0) rfl rfl) (segs 0 864 10 rfl (segs 64 800 10 (arr_len q_3 rfl) (segs 0 800 10 rfl (segs 800 0 10 (arr_len q_5 rfl) rfl))))⟩] [(0, 0, 0)] [] [0, 1, 2, 5, 6, 7, 3, 8] 495 [(14, .slice A_9 a0.ctrl.length c_10), (19, .slice A_12 a0.fenced.length c_13)] (fun _ => (po_then po_body)) rfl rfl (by kernel_rfl) fun σ => ?_
 refine w_one (m' := 511) 4 rfl (by kernel_rfl) (by kernel_rfl) ?_
 obtain ⟨r_30, hx_29, H⟩ := bindSome H
 refine s_call (.cons (tm rfl rfl) .nil) Try.call50 (selvageref16_mask.calls a0.ctrl A_9 c_10 r_30 _ _ (Hp.offCov hp_27 [] [[(b_1, .cells (([] : List Value) ++ (cs_2 ++ (([] : List Value) ++ (cs_4 ++ ([.int .i64 a0.cmp.N, .slice A_6 a0.cmp.Hang.length c_7, .slice A_9 a0.ctrl.length c_10, .slice A_12 a0.fenced.length c_13, .int .i64 a0.hold, .int .i64 a0.held, .slice A_15 a0.events.length c_16, .slice A_19 a0.answers.length c_20, .int .i64 a0.locs, .int .i64 a0.base] : List Value))))).toArray 71 (0, 0))], X_18, [(b_22, .cells #[.int .i64 a1.Kind, .int .i64 a1.Loc, .int .i64 a1.Val, .int .i64 a1.Pair, .int .u64 a1.Addr, .int .u64 a1.Data, .int .u64 a1.Ctrl, .int .u64 a1.Fenced] 33 (0, 0))]] rfl) (RdS.pass q_11 hp_27) hx_29) rfl ?_
 rintro v_ w_31 ⟨rfl, af_34⟩
 have hp_32 := Hp.callA af_34 hp_27
 refine k_nil ?_
 refine ⟨(Wp.of hp_32 [0, 1, 2] rfl), ?_⟩
 refine w_take (m' := 1535) (v := .pointer (some ⟨b_22, 6, none⟩)) 10 rfl rfl (by kernel_rfl) (by kernel_rfl) (by kernel_rfl) (by kernel_rfl) (by kernel_rfl) (by kernel_rfl) (by kernel_rfl) (po_then po_body) (Wp.of hp_32 [0, 1, 2] rfl) (y_val (fun w_ hW_ => e_fieldAddr (tm rfl rfl) Try.runUnderlying33 rfl Try.sizeOf31 rfl rfl)) ?_
 refine w_one (m' := 2047) 9 rfl (by kernel_rfl) (by kernel_rfl) ?_
 obtain ⟨r_37, hx_36, H⟩ := bindSome H
 refine s_call (.cons (tm rfl rfl) .nil) Try.call50 (selvageref16_mask.calls a0.fenced A_12 c_13 r_37 _ _ (Hp.offCov hp_32 [] [[(b_1, .cells (([] : List Value) ++ (cs_2 ++ (([] : List Value) ++ (cs_4 ++ ([.int .i64 a0.cmp.N, .slice A_6 a0.cmp.Hang.length c_7, .slice A_9 a0.ctrl.length c_10, .slice A_12 a0.fenced.length c_13, .int .i64 a0.hold, .int .i64 a0.held, .slice A_15 a0.events.length c_16, .slice A_19 a0.answers.length c_20, .int .i64 a0.locs, .int .i64 a0.base] : List Value))))).toArray 71 (0, 0))], X_18, [(b_22, .cells #[.int .i64 a1.Kind, .int .i64 a1.Loc, .int .i64 a1.Val, .int .i64 a1.Pair, .int .u64 a1.Addr, .int .u64 a1.Data, .int .u64 a1.Ctrl, .int .u64 a1.Fenced] 33 (0, 0))]] rfl) (RdS.pass q_14 hp_32) hx_36) rfl ?_
 rintro v_ w_38 ⟨rfl, af_41⟩
 have hp_39 := Hp.callA af_41 hp_32
 refine k_nil ?_
 refine ⟨(Wp.of hp_39 [0, 1, 2] rfl), ?_⟩
 refine w_one (m' := 4095) 11 rfl (by kernel_rfl) (by kernel_rfl) ?_
 refine s_store (i := 2) (j := 0) (vs := [.int .u64 r_30]) (l' := [.int .i64 a1.Kind, .int .i64 a1.Loc, .int .i64 a1.Val, .int .i64 a1.Pair, .int .u64 a1.Addr, .int .u64 a1.Data, .int .u64 r_30, .int .u64 a1.Fenced]) hp_39 (tm rfl rfl) (tm rfl rfl) rfl Try.sizeOf31 rfl rfl rfl rfl rfl rfl (fun w_42 hp_43 => ?_)
 refine k_nil ?_
 refine ⟨(Wp.of hp_43 [0, 1] rfl), ?_⟩
 refine w_take (m' := 8191) (v := .pointer (some ⟨b_22, 7, none⟩)) 12 rfl rfl (by kernel_rfl) (by kernel_rfl) (by kernel_rfl) (by kernel_rfl) (by kernel_rfl) (by kernel_rfl) (by kernel_rfl) (po_then po_body) (Wp.of hp_43 [0, 1] rfl) (y_val (fun w_ hW_ => e_fieldAddr (tm rfl rfl) Try.runUnderlying33 rfl Try.sizeOf31 rfl rfl)) ?_
 refine w_one (m' := 16383) 13 rfl (by kernel_rfl) (by kernel_rfl) ?_
 refine s_store (i := 2) (j := 0) (vs := [.int .u64 r_37]) (l' := [.int .i64 a1.Kind, .int .i64 a1.Loc, .int .i64 a1.Val, .int .i64 a1.Pair, .int .u64 a1.Addr, .int .u64 a1.Data, .int .u64 r_30, .int .u64 r_37]) hp_43 (tm rfl rfl) (tm rfl rfl) rfl Try.sizeOf31 rfl rfl rfl rfl rfl rfl (fun w_44 hp_45 => ?_)
 refine k_nil ?_
 refine ⟨(Wp.of hp_45 [0, 1] rfl), ?_⟩
 refine w_done (by kernel_rfl) ?_
 refine k_seq ?_
 refine k_anyF [[0, 2], [0, 1, 2], [0, 1, 2], [0, 1, 2], [0, 1, 2], [0, 1, 2], [0, 1, 2], [0, 2], [0, 2], [0, 2], [2]] [0, 0, 2, 6, 14, 0, 32, 126, 255, 511, 1023] mixed hp_45 11 (by kernel_rfl) (fun w_46 hp_47 => ?_)
 refine w_takes (f := 5) tb [0, 1, 2] (Wp.of hp_47 [0, 1, 2] rfl) [] [] [⟨0, 864, _, _, [0], fun w h => cells_box (sz := 10) (h.get (i := 0) (j := 0) rfl rfl) (segs 0 864 10 rfl (segs 64 800 10 (arr_len q_3 rfl) (segs 0 800 10 rfl (segs 800 0 10 (arr_len q_5 rfl) rfl))))⟩] [(0, 0, 0), (3, 2, 0)] [] [0, 1, 2, 3, 4, 5] 63 [(23, .pointer (some ⟨b_1, 0, none⟩)), (27, .slice A_15 a0.events.length c_16), (28, .agg #[.int .i64 a1.Kind, .int .i64 a1.Loc, .int .i64 a1.Val, .int .i64 a1.Pair, .int .u64 a1.Addr, .int .u64 a1.Data, .int .u64 r_30, .int .u64 r_37])] (fun _ => (po_then po_body)) rfl rfl (by kernel_rfl) fun σ => ?_
 refine w_one (m' := 127) 6 rfl (by kernel_rfl) (by kernel_rfl) ?_
 refine s_buildC (zv := .agg #[.int .i64 0, .int .i64 0, .int .i64 0, .int .i64 0, .int .u64 0, .int .u64 0, .int .u64 0, .int .u64 0]) (E := api_Event_E) (F := no) (wf := wz) (xs := ([{ a1 with Ctrl := r_30, Fenced := r_37 }] : List api_Event)) (cs := [.int .i64 a1.Kind, .int .i64 a1.Loc, .int .i64 a1.Val, .int .i64 a1.Pair, .int .u64 a1.Addr, .int .u64 a1.Data, .int .u64 r_30, .int .u64 r_37]) (vs := [(0, .agg #[.int .i64 a1.Kind, .int .i64 a1.Loc, .int .i64 a1.Val, .int .i64 a1.Pair, .int .u64 a1.Addr, .int .u64 a1.Data, .int .u64 r_30, .int .u64 r_37])]) hp_47 (.cons (tm rfl rfl) .nil) Try.runUnderlying26 Try.sizeOf33 (by intro w_; kernel_rfl) rfl rfl rfl (Reps.cat.2 rfl) rfl rfl rfl rfl (fun A_48 c_49 w_50 X_51 hp_52 O_53 => ?_)
 refine k_nil ?_
 refine ⟨(Wp.of hp_52 [0, 1, 2] rfl), ?_⟩
 refine w_one (m' := 255) 7 rfl (by kernel_rfl) (by kernel_rfl) ?_
 obtain ⟨g_54, H⟩ := grd H
 refine s_append (E := api_Event_E) (F := no) (wf := wz) (xs := a0.events) (ys := ([{ a1 with Ctrl := r_30, Fenced := r_37 }] : List api_Event)) (r := 1) hp_52 (tm rfl rfl) (tm rfl rfl) Try.underlying26 rfl rfl rfl rfl rfl rfl rfl q_17 (Own.src O_53 hp_52 (i := 3) rfl) g_54 rfl (fun A_55 c_56 w_57 X_58 hp_59 O_60 => ?_)
 refine k_nil ?_
 refine ⟨(Wp.of hp_59 [0, 2] rfl), ?_⟩
 refine w_takes (f := 1) tb [0, 2] (Wp.of hp_59 [0, 2] rfl) [] [] [] [(23, 0, 0)] [] [8, 9] 1023 [(32, .pointer (some ⟨b_1, 870, none⟩))] (fun _ => (po_then po_body)) rfl rfl (by kernel_rfl) fun σ => ?_
 refine w_one (m' := 2047) 10 rfl (by kernel_rfl) (by kernel_rfl) ?_
 refine s_store (i := 0) (j := 0) (vs := [.slice A_55 (a0.events ++ ([{ a1 with Ctrl := r_30, Fenced := r_37 }] : List api_Event)).length c_56]) (l' := (([] : List Value) ++ (cs_2 ++ (([] : List Value) ++ (cs_4 ++ ([.int .i64 a0.cmp.N, .slice A_6 a0.cmp.Hang.length c_7, .slice A_9 a0.ctrl.length c_10, .slice A_12 a0.fenced.length c_13, .int .i64 a0.hold, .int .i64 a0.held, .slice A_55 (a0.events ++ ([{ a1 with Ctrl := r_30, Fenced := r_37 }] : List api_Event)).length c_56, .slice A_19 a0.answers.length c_20, .int .i64 a0.locs, .int .i64 a0.base] : List Value)))))) hp_59 (tm rfl rfl) (tm rfl rfl) rfl Try.sizeOf26 rfl rfl rfl rfl (ble_len (lenA rfl (lenA (arr_len q_3 rfl) (lenA rfl (lenA (arr_len q_5 rfl) rfl)))) rfl) (segu 0 870 rfl (segu 64 806 (arr_len q_3 rfl) (segu 0 806 rfl (segu 800 6 (arr_len q_5 rfl) rfl)))) (fun w_61 hp_62 => ?_)
 refine k_nil ?_
 refine ⟨(Wp.of hp_62 [2] rfl), ?_⟩
 refine w_done (by kernel_rfl) ?_
 refine kq tb hp_62 [] [(4, .bool true)] (by kernel_rfl) fun σ => ?_
 refine k_ret ?_
 obtain rfl := Option.some.inj H
 exact k_end rfl (.tmp rfl rfl .nil) rfl ⟨cs_2, cs_4, A_55, c_56, X_58, rfl, q_3, q_5, q_8, q_11, q_14, O_60, q_21, (hp_62.pick [0, 1] (by decide) rfl).aft⟩

/-! ### (*selvage/selvageref16.state).taken: function 23 -/
def selvageref16_state_taken.m (a0 : selvageref16_state) (a1 : api_Inst) : Option (Bool × selvageref16_state) :=
 if (decide (a1.Op = 19)) = true then (some (true, a0)) else ((selvageref16_join.m a0.ctrl a0.cmp.Hang).bind fun r_30 => (if (decide (a1.T = 0)) = true then (some (decide (a0.cmp.N < 0), { a0 with ctrl := r_30 })) else (if (decide (a1.T = 1)) = true then (some (decide (a0.cmp.N ≥ 0), { a0 with ctrl := r_30 })) else (if (decide (a1.T = 2)) = true then (some (decide (a0.cmp.N = 0), { a0 with ctrl := r_30 })) else (some ((!decide (a0.cmp.N = 0)), { a0 with ctrl := r_30 }))))))
set_option maxHeartbeats 4000000 in
set_option maxRecDepth 100000 in
theorem selvageref16_state_taken.calls (a0 : selvageref16_state) (b_1 : Nat) (cs_2 : List Value) (cs_4 : List Value) (A_6 : Option Addr) (c_7 : Nat) (A_9 : Option Addr) (c_10 : Nat) (A_12 : Option Addr) (c_13 : Nat) (A_15 : Option Addr) (c_16 : Nat) (X_18 : Rsc) (A_19 : Option Addr) (c_20 : Nat) (a1 : api_Inst) (r : Bool × selvageref16_state) (w : World) (F : Nat → Prop) (hF : ∀ k, F k → Off w [[(b_1, .cells (([] : List Value) ++ (cs_2 ++ (([] : List Value) ++ (cs_4 ++ ([.int .i64 a0.cmp.N, .slice A_6 a0.cmp.Hang.length c_7, .slice A_9 a0.ctrl.length c_10, .slice A_12 a0.fenced.length c_13, .int .i64 a0.hold, .int .i64 a0.held, .slice A_15 a0.events.length c_16, .slice A_19 a0.answers.length c_20, .int .i64 a0.locs, .int .i64 a0.base] : List Value))))).toArray 71 (0, 0))], X_18] k) (hX : Have w [[(b_1, .cells (([] : List Value) ++ (cs_2 ++ (([] : List Value) ++ (cs_4 ++ ([.int .i64 a0.cmp.N, .slice A_6 a0.cmp.Hang.length c_7, .slice A_9 a0.ctrl.length c_10, .slice A_12 a0.fenced.length c_13, .int .i64 a0.hold, .int .i64 a0.held, .slice A_15 a0.events.length c_16, .slice A_19 a0.answers.length c_20, .int .i64 a0.locs, .int .i64 a0.base] : List Value))))).toArray 71 (0, 0))], X_18]) (q_3 : Reps selvageref16_Cell_E F w a0.regs.toList cs_2) (q_5 : Reps selvageref16_Cell_E F w a0.stack.toList cs_4) (q_8 : RdS (intE .i64) F w A_6 c_7 a0.cmp.Hang) (q_11 : RdS (intE .i64) F w A_9 c_10 a0.ctrl) (q_14 : RdS (intE .i64) F w A_12 c_13 a0.fenced) (q_17 : Own api_Event_E no wz 33 A_15 c_16 a0.events X_18) (q_21 : RdS (intE .i64) F w A_19 c_20 a0.answers) (H : selvageref16_state_taken.m a0 a1 = some r) :
 Ret Try.prog 23 [.pointer (some ⟨b_1, 0, none⟩), .agg #[.int .i64 a1.Op, .int .i64 a1.T, .int .i64 a1.A, .int .i64 a1.B, .int .i64 a1.Imm]] w fun v w' => ∃ (I_ : Nat → Prop) (cs_1092 : List Value) (cs_1094 : List Value) (A_1097 : Option Addr) (c_1098 : Nat) (X_1102 : Rsc), v = .bool r.1 ∧ Reps selvageref16_Cell_E I_ w' r.2.regs.toList cs_1092 ∧ Reps selvageref16_Cell_E I_ w' r.2.stack.toList cs_1094 ∧ RdS (intE .i64) I_ w' A_6 c_7 r.2.cmp.Hang ∧ RdS (intE .i64) I_ w' A_1097 c_1098 r.2.ctrl ∧ RdS (intE .i64) I_ w' A_12 c_13 r.2.fenced ∧ Own api_Event_E no wz 33 A_15 c_16 r.2.events X_1102 ∧ RdS (intE .i64) I_ w' A_19 c_20 r.2.answers ∧ Frz F [[(b_1, .cells (([] : List Value) ++ (cs_2 ++ (([] : List Value) ++ (cs_4 ++ ([.int .i64 a0.cmp.N, .slice A_6 a0.cmp.Hang.length c_7, .slice A_9 a0.ctrl.length c_10, .slice A_12 a0.fenced.length c_13, .int .i64 a0.hold, .int .i64 a0.held, .slice A_15 a0.events.length c_16, .slice A_19 a0.answers.length c_20, .int .i64 a0.locs, .int .i64 a0.base] : List Value))))).toArray 71 (0, 0))], X_18] w I_ w' [[(b_1, .cells (([] : List Value) ++ (cs_1092 ++ (([] : List Value) ++ (cs_1094 ++ ([.int .i64 r.2.cmp.N, .slice A_6 r.2.cmp.Hang.length c_7, .slice A_1097 r.2.ctrl.length c_1098, .slice A_12 r.2.fenced.length c_13, .int .i64 r.2.hold, .int .i64 r.2.held, .slice A_15 r.2.events.length c_16, .slice A_19 r.2.answers.length c_20, .int .i64 r.2.locs, .int .i64 r.2.base] : List Value))))).toArray 71 (0, 0))], X_1102] ∧ Aft w w' [[(b_1, .cells (([] : List Value) ++ (cs_2 ++ (([] : List Value) ++ (cs_4 ++ ([.int .i64 a0.cmp.N, .slice A_6 a0.cmp.Hang.length c_7, .slice A_9 a0.ctrl.length c_10, .slice A_12 a0.fenced.length c_13, .int .i64 a0.hold, .int .i64 a0.held, .slice A_15 a0.events.length c_16, .slice A_19 a0.answers.length c_20, .int .i64 a0.locs, .int .i64 a0.base] : List Value))))).toArray 71 (0, 0))], X_18] [[(b_1, .cells (([] : List Value) ++ (cs_1092 ++ (([] : List Value) ++ (cs_1094 ++ ([.int .i64 r.2.cmp.N, .slice A_6 r.2.cmp.Hang.length c_7, .slice A_1097 r.2.ctrl.length c_1098, .slice A_12 r.2.fenced.length c_13, .int .i64 r.2.hold, .int .i64 r.2.held, .slice A_15 r.2.events.length c_16, .slice A_19 r.2.answers.length c_20, .int .i64 r.2.locs, .int .i64 r.2.base] : List Value))))).toArray 71 (0, 0))], X_1102] := by
 unfold selvageref16_state_taken.m at H
 have hp0 := Hp.startR hX hF
 have ep0 := Ep.refl F [[(b_1, .cells (([] : List Value) ++ (cs_2 ++ (([] : List Value) ++ (cs_4 ++ ([.int .i64 a0.cmp.N, .slice A_6 a0.cmp.Hang.length c_7, .slice A_9 a0.ctrl.length c_10, .slice A_12 a0.fenced.length c_13, .int .i64 a0.hold, .int .i64 a0.held, .slice A_15 a0.events.length c_16, .slice A_19 a0.answers.length c_20, .int .i64 a0.locs, .int .i64 a0.base] : List Value))))).toArray 71 (0, 0))], X_18] w
 refine enter (L := [(0, .pointer (some ⟨b_1, 0, none⟩)), (1, .agg #[.int .i64 a1.Op, .int .i64 a1.T, .int .i64 a1.A, .int .i64 a1.B, .int .i64 a1.Imm])]) Try.func23 rfl Try.ntmps23 rfl rfl ?_
 refine k_seq ?_
 refine k_region ?_
 refine s_box (l := [.int .i64 a1.Op, .int .i64 a1.T, .int .i64 a1.A, .int .i64 a1.B, .int .i64 a1.Imm]) hp0 (tm rfl rfl) rfl rfl (fun b_22 w_23 hp_24 => ?_)
 refine sv (v := .bool false) rfl rfl rfl (e_assign rfl) ?_
 refine k_nil ?_
 refine k_seq ?_
 refine kq tb hp_24 [(3, 2, 0)] [(7, .bool (decide (a1.Op = 19)))] (by kernel_rfl) fun σ => ?_
 refine k_if (tm rfl rfl) (fun h_25 => ?_) (fun h_25 => ?_)
 ·have H := ift h_25 H
  refine kq tb hp_24 [] [(4, .bool true)] (by kernel_rfl) fun σ => ?_
  refine k_ret ?_
  obtain rfl := Option.some.inj H
  exact k_end rfl (.tmp rfl rfl .nil) rfl ⟨_, cs_2, cs_4, A_9, c_10, X_18, rfl, (Reps.up q_3 (Hp.up hp_24)), (Reps.up q_5 (Hp.up hp_24)), (RdS.now q_8 hp_24), (RdS.now q_11 hp_24), (RdS.now q_14 hp_24), q_17, (RdS.now q_21 hp_24), (Ep.frz ep0 (hp_24.pick [0, 1] (by decide) rfl)), (hp_24.pick [0, 1] (by decide) rfl).aft⟩
 have H := iff_ h_25 H
 refine k_skip ?_
 refine k_seq ?_
 refine k_anyF [[0, 1, 2], [0, 1, 2], [0, 1, 2], [0, 1, 2], [0, 1, 2], [0, 1, 2], [0, 1, 2], [0, 1, 2], [0, 1, 2], [0, 1, 2], [0, 1, 2], [0, 1, 2], [0, 1, 2], [1, 2]] [0, 0, 2, 6, 14, 0, 32, 96, 224, 480, 1022, 2047, 4095, 8191] mixed hp_24 14 (by kernel_rfl) (fun w_26 hp_27 => ?_)
 refine w_takes (f := 4) tb [0, 1, 2] (Wp.of hp_27 [0, 1, 2] rfl) [] [] [⟨0, 864, _, _, [0], fun w h => cells_box (sz := 10) (h.get (i := 0) (j := 0) rfl rfl) (segs 0 864 10 rfl (segs 64 800 10 (arr_len q_3 rfl) (segs 0 800 10 rfl (segs 800 0 10 (arr_len q_5 rfl) rfl))))⟩] [(0, 0, 0)] [] [0, 1, 2, 3, 5, 6, 7, 8, 4, 9] 1023 [(8, .pointer (some ⟨b_1, 0, none⟩)), (12, .slice A_9 a0.ctrl.length c_10), (17, .slice A_6 a0.cmp.Hang.length c_7)] (fun _ => (po_then po_body)) rfl rfl (by kernel_rfl) fun σ => ?_
 refine w_one (m' := 2047) 10 rfl (by kernel_rfl) (by kernel_rfl) ?_
 obtain ⟨r_30, hx_29, H⟩ := bindSome H
 refine s_call (.cons (tm rfl rfl) (.cons (tm rfl rfl) .nil)) Try.call25 (selvageref16_join.calls a0.ctrl A_9 c_10 a0.cmp.Hang A_6 c_7 r_30 _ _ (Hp.offCov hp_27 [] [[(b_1, .cells (([] : List Value) ++ (cs_2 ++ (([] : List Value) ++ (cs_4 ++ ([.int .i64 a0.cmp.N, .slice A_6 a0.cmp.Hang.length c_7, .slice A_9 a0.ctrl.length c_10, .slice A_12 a0.fenced.length c_13, .int .i64 a0.hold, .int .i64 a0.held, .slice A_15 a0.events.length c_16, .slice A_19 a0.answers.length c_20, .int .i64 a0.locs, .int .i64 a0.base] : List Value))))).toArray 71 (0, 0))], X_18, [(b_22, .cells #[.int .i64 a1.Op, .int .i64 a1.T, .int .i64 a1.A, .int .i64 a1.B, .int .i64 a1.Imm] 44 (0, 0))]] rfl) (RdS.pass q_11 hp_27) (RdS.pass q_8 hp_27) hx_29) rfl ?_
 rintro v_ w_31 ⟨A_35, c_36, X_38, rfl, q_37, af_34⟩
 have hp_32 := Hp.callA af_34 hp_27
 refine k_nil ?_
 refine ⟨(Wp.of hp_32 [1, 2, 3] rfl), ?_⟩
 refine w_takes (f := 1) tb [0, 1, 2] (Wp.of hp_32 [1, 2, 3] rfl) [] [] [] [(8, 0, 0)] [] [11, 12] 8191 [(20, .pointer (some ⟨b_1, 866, none⟩))] (fun _ => (po_then po_body)) rfl rfl (by kernel_rfl) fun σ => ?_
 refine w_one (m' := 16383) 13 rfl (by kernel_rfl) (by kernel_rfl) ?_
 refine s_store (i := 1) (j := 0) (vs := [.slice A_35 r_30.length c_36]) (l' := (([] : List Value) ++ (cs_2 ++ (([] : List Value) ++ (cs_4 ++ ([.int .i64 a0.cmp.N, .slice A_6 a0.cmp.Hang.length c_7, .slice A_35 r_30.length c_36, .slice A_12 a0.fenced.length c_13, .int .i64 a0.hold, .int .i64 a0.held, .slice A_15 a0.events.length c_16, .slice A_19 a0.answers.length c_20, .int .i64 a0.locs, .int .i64 a0.base] : List Value)))))) hp_32 (tm rfl rfl) (tm rfl rfl) rfl Try.sizeOf65 rfl rfl rfl rfl (ble_len (lenA rfl (lenA (arr_len q_3 rfl) (lenA rfl (lenA (arr_len q_5 rfl) rfl)))) rfl) (segu 0 866 rfl (segu 64 802 (arr_len q_3 rfl) (segu 0 802 rfl (segu 800 2 (arr_len q_5 rfl) rfl)))) (fun w_39 hp_40 => ?_)
 refine k_nil ?_
 refine ⟨(Wp.of hp_40 [2, 3] rfl), ?_⟩
 refine w_done (by kernel_rfl) ?_
 refine k_seq ?_
 refine kq tb hp_40 [(3, 3, 0)] [(22, .int .i64 a1.T)] (by kernel_rfl) fun σ => ?_
 refine k_block ?_
 refine kq tb hp_40 [] [(23, .bool (decide (a1.T = 0)))] (by kernel_rfl) fun σ => ?_
 refine k_if (tm rfl rfl) (fun h_41 => ?_) (fun h_41 => ?_)
 ·have H := ift h_41 H
  refine kqx tb hp_40 [] [] [⟨1, 864, _, _, cells_box (sz := 10) (hp_40.get (i := 1) (j := 0) rfl rfl) (segs 0 864 10 rfl (segs 64 800 10 (arr_len q_3 rfl) (segs 0 800 10 rfl (segs 800 0 10 (arr_len q_5 rfl) rfl))))⟩] [(0, 1, 0)] [] [(4, .bool (decide (a0.cmp.N < 0)))] (by kernel_rfl) fun σ => ?_
  refine k_ret ?_
  refine q_ret ?_
  have hp_42 := Hp.pick (R' := [X_38, [(b_1, .cells (([] : List Value) ++ (cs_2 ++ (([] : List Value) ++ (cs_4 ++ ([.int .i64 a0.cmp.N, .slice A_6 a0.cmp.Hang.length c_7, .slice A_35 r_30.length c_36, .slice A_12 a0.fenced.length c_13, .int .i64 a0.hold, .int .i64 a0.held, .slice A_15 a0.events.length c_16, .slice A_19 a0.answers.length c_20, .int .i64 a0.locs, .int .i64 a0.base] : List Value))))).toArray 71 (0, 0))], X_18, [(b_22, .cells #[.int .i64 a1.Op, .int .i64 a1.T, .int .i64 a1.A, .int .i64 a1.B, .int .i64 a1.Imm] 44 (0, 0))]]) [0, 1, 2, 3] hp_40 (by decide) rfl
  have q_46 := (Own.any q_37).froze hp_42
  have ep_45 := ep0.freeze hp_42
  have u_44 := hp_42.frozenUp
  have hp_43 := hp_42.freeze
  have q_48 := q_11.up u_44
  have q_49 := q_8.up u_44
  have q_50 := q_3.up u_44
  have q_51 := q_5.up u_44
  have q_52 := q_14.up u_44
  have q_53 := q_21.up u_44
  obtain rfl := Option.some.inj H
  exact k_end rfl (.tmp rfl rfl .nil) rfl ⟨_, cs_2, cs_4, A_35, c_36, X_18, rfl, q_50, q_51, q_49, q_46, q_52, q_17, q_53, (Ep.frz ep_45 (hp_43.pick [0, 1] (by decide) rfl)), (hp_43.pick [0, 1] (by decide) rfl).aft⟩
 have H := iff_ h_41 H
 refine kq tb hp_40 [] [(31, .bool (decide (a1.T = 1)))] (by kernel_rfl) fun σ => ?_
 refine k_if (tm rfl rfl) (fun h_54 => ?_) (fun h_54 => ?_)
 ·have H := ift h_54 H
  refine kqx tb hp_40 [] [] [⟨1, 864, _, _, cells_box (sz := 10) (hp_40.get (i := 1) (j := 0) rfl rfl) (segs 0 864 10 rfl (segs 64 800 10 (arr_len q_3 rfl) (segs 0 800 10 rfl (segs 800 0 10 (arr_len q_5 rfl) rfl))))⟩] [(0, 1, 0)] [] [(4, .bool (decide (a0.cmp.N ≥ 0)))] (by kernel_rfl) fun σ => ?_
  refine k_ret ?_
  refine q_ret ?_
  have hp_55 := Hp.pick (R' := [X_38, [(b_1, .cells (([] : List Value) ++ (cs_2 ++ (([] : List Value) ++ (cs_4 ++ ([.int .i64 a0.cmp.N, .slice A_6 a0.cmp.Hang.length c_7, .slice A_35 r_30.length c_36, .slice A_12 a0.fenced.length c_13, .int .i64 a0.hold, .int .i64 a0.held, .slice A_15 a0.events.length c_16, .slice A_19 a0.answers.length c_20, .int .i64 a0.locs, .int .i64 a0.base] : List Value))))).toArray 71 (0, 0))], X_18, [(b_22, .cells #[.int .i64 a1.Op, .int .i64 a1.T, .int .i64 a1.A, .int .i64 a1.B, .int .i64 a1.Imm] 44 (0, 0))]]) [0, 1, 2, 3] hp_40 (by decide) rfl
  have q_59 := (Own.any q_37).froze hp_55
  have ep_58 := ep0.freeze hp_55
  have u_57 := hp_55.frozenUp
  have hp_56 := hp_55.freeze
  have q_61 := q_11.up u_57
  have q_62 := q_8.up u_57
  have q_63 := q_3.up u_57
  have q_64 := q_5.up u_57
  have q_65 := q_14.up u_57
  have q_66 := q_21.up u_57
  obtain rfl := Option.some.inj H
  exact k_end rfl (.tmp rfl rfl .nil) rfl ⟨_, cs_2, cs_4, A_35, c_36, X_18, rfl, q_63, q_64, q_62, q_59, q_65, q_17, q_66, (Ep.frz ep_58 (hp_56.pick [0, 1] (by decide) rfl)), (hp_56.pick [0, 1] (by decide) rfl).aft⟩
 have H := iff_ h_54 H
 refine kq tb hp_40 [] [(39, .bool (decide (a1.T = 2)))] (by kernel_rfl) fun σ => ?_
 refine k_if (tm rfl rfl) (fun h_67 => ?_) (fun h_67 => ?_)
 ·have H := ift h_67 H
  refine kqx tb hp_40 [] [] [⟨1, 864, _, _, cells_box (sz := 10) (hp_40.get (i := 1) (j := 0) rfl rfl) (segs 0 864 10 rfl (segs 64 800 10 (arr_len q_3 rfl) (segs 0 800 10 rfl (segs 800 0 10 (arr_len q_5 rfl) rfl))))⟩] [(0, 1, 0)] [] [(4, .bool (decide (a0.cmp.N = 0)))] (by kernel_rfl) fun σ => ?_
  refine k_ret ?_
  refine q_ret ?_
  have hp_68 := Hp.pick (R' := [X_38, [(b_1, .cells (([] : List Value) ++ (cs_2 ++ (([] : List Value) ++ (cs_4 ++ ([.int .i64 a0.cmp.N, .slice A_6 a0.cmp.Hang.length c_7, .slice A_35 r_30.length c_36, .slice A_12 a0.fenced.length c_13, .int .i64 a0.hold, .int .i64 a0.held, .slice A_15 a0.events.length c_16, .slice A_19 a0.answers.length c_20, .int .i64 a0.locs, .int .i64 a0.base] : List Value))))).toArray 71 (0, 0))], X_18, [(b_22, .cells #[.int .i64 a1.Op, .int .i64 a1.T, .int .i64 a1.A, .int .i64 a1.B, .int .i64 a1.Imm] 44 (0, 0))]]) [0, 1, 2, 3] hp_40 (by decide) rfl
  have q_72 := (Own.any q_37).froze hp_68
  have ep_71 := ep0.freeze hp_68
  have u_70 := hp_68.frozenUp
  have hp_69 := hp_68.freeze
  have q_74 := q_11.up u_70
  have q_75 := q_8.up u_70
  have q_76 := q_3.up u_70
  have q_77 := q_5.up u_70
  have q_78 := q_14.up u_70
  have q_79 := q_21.up u_70
  obtain rfl := Option.some.inj H
  exact k_end rfl (.tmp rfl rfl .nil) rfl ⟨_, cs_2, cs_4, A_35, c_36, X_18, rfl, q_76, q_77, q_75, q_72, q_78, q_17, q_79, (Ep.frz ep_71 (hp_69.pick [0, 1] (by decide) rfl)), (hp_69.pick [0, 1] (by decide) rfl).aft⟩
 have H := iff_ h_67 H
 refine k_skip ?_
 refine kqx tb hp_40 [] [] [⟨1, 864, _, _, cells_box (sz := 10) (hp_40.get (i := 1) (j := 0) rfl rfl) (segs 0 864 10 rfl (segs 64 800 10 (arr_len q_3 rfl) (segs 0 800 10 rfl (segs 800 0 10 (arr_len q_5 rfl) rfl))))⟩] [(0, 1, 0)] [] [(4, .bool (!decide (a0.cmp.N = 0)))] (by kernel_rfl) fun σ => ?_
 refine k_ret ?_
 have hp_80 := Hp.pick (R' := [X_38, [(b_1, .cells (([] : List Value) ++ (cs_2 ++ (([] : List Value) ++ (cs_4 ++ ([.int .i64 a0.cmp.N, .slice A_6 a0.cmp.Hang.length c_7, .slice A_35 r_30.length c_36, .slice A_12 a0.fenced.length c_13, .int .i64 a0.hold, .int .i64 a0.held, .slice A_15 a0.events.length c_16, .slice A_19 a0.answers.length c_20, .int .i64 a0.locs, .int .i64 a0.base] : List Value))))).toArray 71 (0, 0))], X_18, [(b_22, .cells #[.int .i64 a1.Op, .int .i64 a1.T, .int .i64 a1.A, .int .i64 a1.B, .int .i64 a1.Imm] 44 (0, 0))]]) [0, 1, 2, 3] hp_40 (by decide) rfl
 have q_84 := (Own.any q_37).froze hp_80
 have ep_83 := ep0.freeze hp_80
 have u_82 := hp_80.frozenUp
 have hp_81 := hp_80.freeze
 have q_86 := q_11.up u_82
 have q_87 := q_8.up u_82
 have q_88 := q_3.up u_82
 have q_89 := q_5.up u_82
 have q_90 := q_14.up u_82
 have q_91 := q_21.up u_82
 obtain rfl := Option.some.inj H
 exact k_end rfl (.tmp rfl rfl .nil) rfl ⟨_, cs_2, cs_4, A_35, c_36, X_18, rfl, q_88, q_89, q_87, q_84, q_90, q_17, q_91, (Ep.frz ep_83 (hp_81.pick [0, 1] (by decide) rfl)), (hp_81.pick [0, 1] (by decide) rfl).aft⟩

/-! ### selvage/selvageref16.sign: function 51 -/
def selvageref16_sign.m (a0 : Int) (a1 : Int) : Int :=
 if (decide (a0 < a1)) = true then ((-1)) else (if (decide (a0 > a1)) = true then (1) else (0))
set_option maxHeartbeats 4000000 in
set_option maxRecDepth 100000 in
theorem selvageref16_sign.calls (a0 : Int) (a1 : Int) (w : World) :
 Ret Try.prog 51 [.int .i64 a0, .int .i64 a1] w fun v w' => v = .int .i64 (selvageref16_sign.m a0 a1) ∧ Aft w w' [] [] := by
 obtain ⟨r, H⟩ : ∃ r, selvageref16_sign.m a0 a1 = r := ⟨_, rfl⟩
 rw [H]
 unfold selvageref16_sign.m at H
 have hp0 := Hp.startR (F := no) (R := []) (Have.nil w) (fun _ h => h.elim)
 have ep0 := Ep.refl no [] w
 refine enter (L := [(0, .int .i64 a0), (1, .int .i64 a1)]) Try.func51 rfl Try.ntmps51 rfl rfl ?_
 refine kq tb hp0 [] [] (by kernel_rfl) fun σ => ?_
 refine k_seq ?_
 refine kq tb hp0 [] [(7, .bool (decide (a0 < a1)))] (by kernel_rfl) fun σ => ?_
 refine k_if (tm rfl rfl) (fun h_1 => ?_) (fun h_1 => ?_)
 ·have H := ift h_1 H
  refine kq tb hp0 [] [(4, .int .i64 (-1))] (by kernel_rfl) fun σ => ?_
  refine k_ret ?_
  obtain rfl := id H
  exact k_end rfl (.tmp rfl rfl .nil) rfl ⟨rfl, (hp0).aft⟩
 have H := iff_ h_1 H
 refine k_skip ?_
 refine k_seq ?_
 refine kq tb hp0 [] [(10, .bool (decide (a0 > a1)))] (by kernel_rfl) fun σ => ?_
 refine k_if (tm rfl rfl) (fun h_2 => ?_) (fun h_2 => ?_)
 ·have H := ift h_2 H
  refine kq tb hp0 [] [(4, .int .i64 1)] (by kernel_rfl) fun σ => ?_
  refine k_ret ?_
  obtain rfl := id H
  exact k_end rfl (.tmp rfl rfl .nil) rfl ⟨rfl, (hp0).aft⟩
 have H := iff_ h_2 H
 refine k_skip ?_
 refine kq tb hp0 [] [(4, .int .i64 0)] (by kernel_rfl) fun σ => ?_
 refine k_ret ?_
 obtain rfl := id H
 exact k_end rfl (.tmp rfl rfl .nil) rfl ⟨rfl, (hp0).aft⟩

end Go.Proofs.Ytcnchjlomcafeaa.W

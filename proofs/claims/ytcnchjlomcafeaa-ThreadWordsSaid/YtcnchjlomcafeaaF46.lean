/- Functions of the program as plain Lean functions, and that the calls do what they say: written by w2.py. -/
import Derived.Test.YtcnchjlomcafeaaRun
import Derived.Test.YtcnchjlomcafeaaTy
import Derived.Test.YtcnchjlomcafeaaF36
import Derived.Test.YtcnchjlomcafeaaG4
import Derived.Test.YtcnchjlomcafeaaF42
import Derived.Test.YtcnchjlomcafeaaF45
set_option linter.unusedVariables false
set_option linter.unusedSimpArgs false
set_option linter.unusedSectionVars false
namespace Go.Proofs.Ytcnchjlomcafeaa.W
open Go Go.RowKit Go.Proofs.Ytcnchjlomcafeaa.B
attribute [local irreducible] Go.wpList Go.Code.wp Go.Region.wanted Go.yielded
/-! ### selvage/selvageref16.Do: function 12 -/
def selvageref16_Do.l0 (a0 : List api_Inst) (x_16 : Int) : Option (Int ⊕ (Unit ⊕ api_Run)) :=
 if (decide (x_16 < (a0.length : Int))) = true then (if 0 ≤ x_16 ∧ x_16 < (a0.length : Int) then ((selvageref15_Encode.m (⟨(gi a0 x_16).Op, (gi a0 x_16).T, (gi a0 x_16).A, (gi a0 x_16).B, (gi a0 x_16).Imm⟩ : api_Inst)).bind fun r_32 => (if (!decide (r_32.2 = 0)) = true then (((some (⟨([] : List api_Event), 0⟩ : api_Run)).map Sum.inr).map Sum.inr) else (some (Sum.inl (wrap64 (x_16 + 1)))))) else none) else ((some (Sum.inl ())).map Sum.inr)
def selvageref16_Do.l1 (a0 : List api_Inst) (x_78 : selvageref16_state × Int × Int) : Option ((selvageref16_state × Int × Int) ⊕ (selvageref16_state × Int ⊕ api_Run)) :=
 if (decide (x_78.2.2 < 8000)) = true then (if ((decide (x_78.2.1 < 0)) || (decide (x_78.2.1 ≥ (a0.length : Int)))) = true then (((some (⟨x_78.1.events, 6⟩ : api_Run)).map Sum.inr).map Sum.inr) else (if 0 ≤ x_78.2.1 ∧ x_78.2.1 < (a0.length : Int) then (((if (decide (((gi a0 x_78.2.1).Op) = 10)) = true then (some (decide (((gi a0 x_78.2.1).Op) = 10))) else (if (decide (((gi a0 x_78.2.1).Op) = 12)) = true then (some (decide (((gi a0 x_78.2.1).Op) = 12))) else (if (decide (((gi a0 x_78.2.1).Op) = 14)) = true then (some (decide (((gi a0 x_78.2.1).Op) = 14))) else (if (decide (((gi a0 x_78.2.1).Op) = 11)) = true then (some (decide (((gi a0 x_78.2.1).Op) = 11))) else (if (decide (((gi a0 x_78.2.1).Op) = 13)) = true then (some (decide (((gi a0 x_78.2.1).Op) = 13))) else (some (decide (((gi a0 x_78.2.1).Op) = 15))))))) : Option Bool).bind fun o_126 => if o_126 = true then ((selvageref16_state_memory.m x_78.1 (⟨(gi a0 x_78.2.1).Op, (gi a0 x_78.2.1).T, (gi a0 x_78.2.1).A, (gi a0 x_78.2.1).B, (gi a0 x_78.2.1).Imm⟩ : api_Inst)).bind fun r_140 => (some (r_140.2, wrap64 (x_78.2.1 + 1), r_140.1))) else ((if (decide (((gi a0 x_78.2.1).Op) = 18)) = true then (some (decide (((gi a0 x_78.2.1).Op) = 18))) else (some (decide (((gi a0 x_78.2.1).Op) = 19))) : Option Bool).bind fun o_171 => if o_171 = true then ((selvageref16_state_taken.m x_78.1 (⟨(gi a0 x_78.2.1).Op, (gi a0 x_78.2.1).T, (gi a0 x_78.2.1).A, (gi a0 x_78.2.1).B, (gi a0 x_78.2.1).Imm⟩ : api_Inst)).bind fun r_181 => (if r_181.1 = true then (some (r_181.2, wrap64 ((wrap64 (x_78.2.1 + 1)) + (wrap64 ((wrap64 (Int.tdiv ((gi a0 x_78.2.1).Imm) 4)) - 1))), 0)) else (some (r_181.2, wrap64 (x_78.2.1 + 1), 0)))) else ((if (decide (((gi a0 x_78.2.1).Op) = 20)) = true then (some (decide (((gi a0 x_78.2.1).Op) = 20))) else (if (decide (((gi a0 x_78.2.1).Op) = 21)) = true then (some (decide (((gi a0 x_78.2.1).Op) = 21))) else (some (decide (((gi a0 x_78.2.1).Op) = 22)))) : Option Bool).bind fun o_209 => if o_209 = true then ((selvageref16_state_event.m x_78.1 (⟨wrap64 ((wrap64 (((gi a0 x_78.2.1).Op) - 20)) + 3), 0, 0, 0, 0, 0, 0, 0⟩ : api_Event)).bind fun r_220 => ((if (!r_220.1) = true then (some 5) else (some 0) : Option Int).bind fun o_243 => if (decide (((gi a0 x_78.2.1).Op) = 22)) = true then ((selvageref16_join.m r_220.2.fenced r_220.2.ctrl).bind fun r_255 => (some ({ r_220.2 with fenced := r_255 }, wrap64 (x_78.2.1 + 1), o_243))) else (some (r_220.2, wrap64 (x_78.2.1 + 1), o_243)))) else (if (decide (((gi a0 x_78.2.1).Op) = 23)) = true then (if (decide (((vg x_78.1.regs 0).N) = 0)) = true then (some (x_78.1, wrap64 (x_78.2.1 + 1), 1)) else (if (decide (((vg x_78.1.regs 0).N) = 1)) = true then ((selvageref16_state_event.m x_78.1 (⟨6, 0, (vg x_78.1.regs 3).N, 0, 0, 0, 0, 0⟩ : api_Event)).bind fun r_297 => (if (!r_297.1) = true then (some (r_297.2, wrap64 (x_78.2.1 + 1), 5)) else (some (r_297.2, wrap64 (x_78.2.1 + 1), 0)))) else (if (decide (((vg x_78.1.regs 0).N) = 2)) = true then (some (x_78.1, wrap64 (x_78.2.1 + 1), 2)) else (if (decide (((vg x_78.1.regs 0).N) = 3)) = true then (some (x_78.1, wrap64 (x_78.2.1 + 1), 3)) else (some (x_78.1, wrap64 (x_78.2.1 + 1), 6)))))) else ((selvageref16_state_reckon.m x_78.1 (⟨(gi a0 x_78.2.1).Op, (gi a0 x_78.2.1).T, (gi a0 x_78.2.1).A, (gi a0 x_78.2.1).B, (gi a0 x_78.2.1).Imm⟩ : api_Inst)).bind fun r_325 => (some (r_325, wrap64 (x_78.2.1 + 1), 0)))))) : Option (selvageref16_state × Int × Int)).bind fun o_124 => if (!decide (o_124.2.2 = 0)) = true then (((some (⟨o_124.1.events, o_124.2.2⟩ : api_Run)).map Sum.inr).map Sum.inr) else (some (Sum.inl (o_124.1, o_124.2.1, wrap64 (x_78.2.2 + 1))))) else none)) else ((some (Sum.inl (x_78.1, x_78.2.1))).map Sum.inr)
def selvageref16_Do.m (a0 : List api_Inst) (a1 : Int) (a2 : Int) (a3 : List Int) : Option api_Run :=
 if ((((decide (a1 < 0)) || (decide (a1 > 16))) || (decide (a2 < 0))) || (decide (a2 > 2))) = true then (some (⟨([] : List api_Event), 0⟩ : api_Run)) else ((loop (selvageref16_Do.l0 a0) 0 : Option (Unit ⊕ api_Run)).bind fun o_13 => match o_13 with | .inl s_15 => ((loop (selvageref16_Do.l1 a0) ((⟨(vp (vp (Vector.replicate 32 (⟨0, ([] : List Int)⟩ : selvageref16_Cell)) 1 (⟨wrap64 (1048576 + (wrap64 (65536 * a2))), (vg (Vector.replicate 32 (⟨0, ([] : List Int)⟩ : selvageref16_Cell)) 1).Hang⟩ : selvageref16_Cell)) 2 (⟨65536, (vg (vp (Vector.replicate 32 (⟨0, ([] : List Int)⟩ : selvageref16_Cell)) 1 (⟨wrap64 (1048576 + (wrap64 (65536 * a2))), (vg (Vector.replicate 32 (⟨0, ([] : List Int)⟩ : selvageref16_Cell)) 1).Hang⟩ : selvageref16_Cell)) 2).Hang⟩ : selvageref16_Cell)), (Vector.replicate 400 (⟨0, ([] : List Int)⟩ : selvageref16_Cell)), (⟨1, ([] : List Int)⟩ : selvageref16_Cell), ([] : List Int), ([] : List Int), (-1), 0, ([] : List api_Event), a3, a1, wrap64 (1048576 + (wrap64 (65536 * a2)))⟩ : selvageref16_state), 0, 0) : Option (selvageref16_state × Int ⊕ api_Run)).bind fun o_75 => match o_75 with | .inl s_77 => (if ((decide (s_77.2 < 0)) || (decide (s_77.2 ≥ (a0.length : Int)))) = true then (some (⟨s_77.1.events, 6⟩ : api_Run)) else (some (⟨s_77.1.events, 5⟩ : api_Run))) | .inr r_420 => some r_420) | .inr r_421 => some r_421)
set_option maxHeartbeats 4000000 in
set_option maxRecDepth 100000 in
theorem selvageref16_Do.calls (a0 : List api_Inst) (A_1 : Option Addr) (c_2 : Nat) (a1 : Int) (a2 : Int) (a3 : List Int) (A_4 : Option Addr) (c_5 : Nat) (r : api_Run) (w : World) (F : Nat → Prop) (hF : ∀ k, F k → Off w [] k) (q_3 : RdS api_Inst_E F w A_1 c_2 a0) (q_6 : RdS (intE .i64) F w A_4 c_5 a3) (H : selvageref16_Do.m a0 a1 a2 a3 = some r) :
 Ret Try.prog 12 [.slice A_1 a0.length c_2, .int .i64 a1, .int .i64 a2, .slice A_4 a3.length c_5] w fun v w' => ∃ (I_ : Nat → Prop) (A_1422 : Option Addr) (c_1423 : Nat) (X_1425 : Rsc), v = .agg #[.slice A_1422 r.Events.length c_1423, .int .i64 r.Status] ∧ Own api_Event_E no wz 33 A_1422 c_1423 r.Events X_1425 ∧ Frz F [] w I_ w' [X_1425] ∧ Aft w w' [] [X_1425] := by
 unfold selvageref16_Do.m at H
 have hp0 := Hp.startR (R := []) (Have.nil w) hF
 have ep0 := Ep.refl F [] w
 refine enter (L := [(0, .slice A_1 a0.length c_2), (1, .int .i64 a1), (2, .int .i64 a2), (3, .slice A_4 a3.length c_5)]) Try.func12 rfl Try.ntmps12 rfl rfl ?_
 refine k_seq ?_
 refine k_region ?_
 refine s_alloc (zv := .agg #[.slice none 0 0, .int .i64 0]) (l := [.slice none 0 0, .int .i64 0]) hp0 (by intro w_; kernel_rfl) rfl rfl (fun b_7 w_8 hp_9 => ?_)
 refine k_nil ?_
 refine k_seq ?_
 refine kq tb hp_9 [] [(30, .bool ((((decide (a1 < 0)) || (decide (a1 > 16))) || (decide (a2 < 0))) || (decide (a2 > 2))))] (by kernel_rfl) fun σ => ?_
 refine k_if (tm rfl rfl) (fun h_10 => ?_) (fun h_10 => ?_)
 ·have H := ift h_10 H
  refine k_seq ?_
  refine k_region ?_
  refine sv (v := .agg #[.slice none 0 0, .int .i64 0]) rfl rfl rfl (e_build (vs := []) (cs := [.slice none 0 0, .int .i64 0]) .nil (by kernel_rfl)) ?_
  refine s_store (i := 0) (j := 0) (vs := [.slice none 0 0, .int .i64 0]) (l' := [.slice none 0 0, .int .i64 0]) hp_9 (tm rfl rfl) (tm rfl rfl) rfl Try.sizeOf28 rfl rfl rfl rfl rfl rfl (fun w_11 hp_12 => ?_)
  refine k_nil ?_
  refine k_ret ?_
  obtain rfl := Option.some.inj H
  exact k_end rfl (.cell rfl rfl (r_loadA Try.isAgg28 Try.sizeOf28 rfl (cells_box (sz := 2) (hp_12.get (i := 0) (j := 0) rfl rfl) rfl)) .nil) rfl ⟨_, none, 0, [], rfl, Own.nil _ _ _ _, (Ep.frz ep0 (hp_12.pick [1] (by decide) rfl)), (hp_12.pick [1] (by decide) rfl).aft⟩
 have H := iff_ h_10 H
 refine k_skip ?_
 refine k_seq ?_
 refine kq tb hp_9 [] [(9, .int .i64 0)] (by kernel_rfl) fun σ => ?_
 obtain ⟨o_13, H, G_14⟩ := bindSome H
 refine k_cut (fun a w' => ∃ (s_15 : Unit) (σ_422 : Nat → Value), o_13 = Sum.inl s_15 ∧ a = st 200 [(0, .slice A_1 a0.length c_2), (1, .int .i64 a1), (2, .int .i64 a2), (3, .slice A_4 a3.length c_5), (8, .pointer (some ⟨b_7, 0, none⟩))] σ_422 [] ∧ Hp (On []) F w w w' [[(b_7, .cells #[.slice none 0 0, .int .i64 0] 28 (0, 0))]]) ?_ ?_
 ·as_aux_lemma =>
  refine k_block ?_
  refine k_lp (fun (x_16 : Int) a w' => ∃ (σ_40 : Nat → Value), a = st 200 [(0, .slice A_1 a0.length c_2), (1, .int .i64 a1), (2, .int .i64 a2), (3, .slice A_4 a3.length c_5), (8, .pointer (some ⟨b_7, 0, none⟩)), (9, .int .i64 x_16)] σ_40 [] ∧ Hp (On []) F w w w' [[(b_7, .cells #[.slice none 0 0, .int .i64 0] 28 (0, 0))]]) H ⟨_, seenF ⟨rfl, rfl, rfl, rfl, rfl, rfl, trivial⟩, hp_9⟩ ?_
  clear H
  rintro x_16 a w' z_ ⟨σ_19, rfl, hp_20⟩ H hz_17
  unfold selvageref16_Do.l0 at H
  refine k_seq ?_
  refine kq tb hp_20 [] [(35, .bool (decide (x_16 < (a0.length : Int))))] (by kernel_rfl) fun σ => ?_
  refine k_if (tm rfl rfl) (fun h_23 => ?_) (fun h_23 => ?_)
  ·as_aux_lemma =>
   have H := ift h_23 H
   refine k_skip ?_
   refine k_seq ?_
   refine k_block ?_
   refine k_seq ?_
   refine k_region ?_
   obtain ⟨g_24, H⟩ := grd H
   obtain ⟨a_29, cs_26, pl_27, q_28, rp_25⟩ := rd_idx q_3 g_24
   obtain rfl : cs_26 = [.int .i64 ((gi a0 x_16).Op), .int .i64 ((gi a0 x_16).T), .int .i64 ((gi a0 x_16).A), .int .i64 ((gi a0 x_16).B), .int .i64 ((gi a0 x_16).Imm)] := rp_25
   refine srx tb hp_20 [⟨_, _, (hp_20.ep q_28)⟩] [.s 41 1 _ _ c_2 _ 5 _ pl_27 g_24] [] [] [] 4 [(42, .agg #[.int .i64 ((gi a0 x_16).Op), .int .i64 ((gi a0 x_16).T), .int .i64 ((gi a0 x_16).A), .int .i64 ((gi a0 x_16).B), .int .i64 ((gi a0 x_16).Imm)])] (by kernel_rfl) fun σ => ?_
   obtain ⟨r_32, hx_31, H⟩ := bindSome H
   refine s_call (.cons (tm rfl rfl) .nil) Try.call21 (selvageref15_Encode.calls (⟨(gi a0 x_16).Op, (gi a0 x_16).T, (gi a0 x_16).A, (gi a0 x_16).B, (gi a0 x_16).Imm⟩ : api_Inst) r_32 _ hx_31) rfl ?_
   rintro v_ w_33 ⟨rfl, af_36⟩
   have hp_34 := Hp.callA af_36 hp_20
   refine sv (v := .tuple #[.int .u32 r_32.1, .int .i64 r_32.2]) rfl rfl rfl (e_move (tm rfl rfl)) ?_
   refine sr tb hp_34 [] 4 [(11, .int .i64 r_32.2)] (by kernel_rfl) fun σ => ?_
   refine k_nil ?_
   refine kq tb hp_34 [] [(47, .bool (!decide (r_32.2 = 0)))] (by kernel_rfl) fun σ => ?_
   refine k_if (tm rfl rfl) (fun h_37 => ?_) (fun h_37 => ?_)
   ·have H := ift h_37 H
    refine k_seq ?_
    refine k_region ?_
    refine sv (v := .agg #[.slice none 0 0, .int .i64 0]) rfl rfl rfl (e_build (vs := []) (cs := [.slice none 0 0, .int .i64 0]) .nil (by kernel_rfl)) ?_
    refine s_store (i := 0) (j := 0) (vs := [.slice none 0 0, .int .i64 0]) (l' := [.slice none 0 0, .int .i64 0]) hp_34 (tm rfl rfl) (tm rfl rfl) rfl Try.sizeOf28 rfl rfl rfl rfl rfl rfl (fun w_38 hp_39 => ?_)
    refine k_nil ?_
    refine k_ret ?_
    refine q_ret ?_
    refine q_ret ?_
    obtain ⟨v_, H', hv_⟩ := mapSome H
    have hv_ := hz_17 _ hv_
    subst hv_
    have H := H'
    clear H'
    obtain ⟨v_, H', hv_⟩ := mapSome H
    subst hv_
    have H := H'.trans (show some v_ = _ from G_14)
    obtain rfl := Option.some.inj H
    exact k_end rfl (.cell rfl rfl (r_loadA Try.isAgg28 Try.sizeOf28 rfl (cells_box (sz := 2) (hp_39.get (i := 0) (j := 0) rfl rfl) rfl)) .nil) rfl ⟨_, none, 0, [], rfl, Own.nil _ _ _ _, (Ep.frz ep0 (hp_39.pick [1] (by decide) rfl)), (hp_39.pick [1] (by decide) rfl).aft⟩
   have H := iff_ h_37 H
   refine k_skip ?_
   refine kr tb hp_34 [] [(9, .int .i64 (wrap64 (x_16 + 1)))] (by kernel_rfl) fun σ => ?_
   obtain rfl := Option.some.inj H
   exact ⟨_, rfl, ⟨_, seenF ⟨rfl, rfl, rfl, rfl, rfl, rfl, trivial⟩, hp_34⟩⟩
  have H := iff_ h_23 H
  refine k_exit ?_
  refine q_here ?_
  obtain ⟨v_, H', hv_⟩ := mapSome H
  have hv_ := hz_17 _ hv_
  subst hv_
  have H := H'
  clear H'
  obtain rfl := Option.some.inj H
  exact ⟨(), _, rfl, seenF ⟨rfl, rfl, rfl, rfl, rfl, trivial⟩, hp_20⟩
 clear H
 rintro a w' ⟨s_15, σ_40, rfl, rfl, hp_41⟩
 have H := G_14
 refine k_seq ?_
 refine k_region ?_
 refine sr tb hp_41 [] 6 [(49, .slice A_4 a3.length c_5), (50, .int .i64 a1), (53, .int .i64 (wrap64 (1048576 + (wrap64 (65536 * a2))))), (54, .agg #[.int .i64 1, .slice none 0 0])] (by kernel_rfl) fun σ => ?_
 refine sv (v := .agg (([] : List Value) ++ ((List.replicate 32 ([.int .i64 0, .slice none 0 0] : List Value)).flatten ++ (([] : List Value) ++ ((List.replicate 400 ([.int .i64 0, .slice none 0 0] : List Value)).flatten ++ ([.int .i64 1, .slice none 0 0, .slice none 0 0, .slice none 0 0, .int .i64 (-1), .int .i64 0, .slice none 0 0, .slice A_4 a3.length c_5, .int .i64 a1, .int .i64 (wrap64 (1048576 + (wrap64 (65536 * a2))))] : List Value))))).toArray) rfl rfl rfl (e_build (vs := [(5, .int .i64 (-1)), (8, .slice A_4 a3.length c_5), (9, .int .i64 a1), (10, .int .i64 (wrap64 (1048576 + (wrap64 (65536 * a2))))), (2, .agg #[.int .i64 1, .slice none 0 0])]) (cs := (([] : List Value) ++ ((List.replicate 32 ([.int .i64 0, .slice none 0 0] : List Value)).flatten ++ (([] : List Value) ++ ((List.replicate 400 ([.int .i64 0, .slice none 0 0] : List Value)).flatten ++ ([.int .i64 1, .slice none 0 0, .slice none 0 0, .slice none 0 0, .int .i64 (-1), .int .i64 0, .slice none 0 0, .slice A_4 a3.length c_5, .int .i64 a1, .int .i64 (wrap64 (1048576 + (wrap64 (65536 * a2))))] : List Value)))))) (.cons rfl (.cons (tm rfl rfl) (.cons (tm rfl rfl) (.cons (tm rfl rfl) (.cons (tm rfl rfl) .nil))))) (by kernel_rfl)) ?_
 refine s_box (l := (([] : List Value) ++ ((List.replicate 32 ([.int .i64 0, .slice none 0 0] : List Value)).flatten ++ (([] : List Value) ++ ((List.replicate 400 ([.int .i64 0, .slice none 0 0] : List Value)).flatten ++ ([.int .i64 1, .slice none 0 0, .slice none 0 0, .slice none 0 0, .int .i64 (-1), .int .i64 0, .slice none 0 0, .slice A_4 a3.length c_5, .int .i64 a1, .int .i64 (wrap64 (1048576 + (wrap64 (65536 * a2))))] : List Value)))))) hp_41 (tm rfl rfl) rfl rfl (fun b_44 w_45 hp_46 => ?_)
 refine sv (v := .pointer (some ⟨b_44, 0, none⟩)) rfl rfl rfl (e_assign (tm rfl rfl)) ?_
 refine k_nil ?_
 refine k_seq ?_
 refine k_anyF [[0], [0], [0], [0], [0], [0, 1], [0], [0], [0, 1], [0, 1], [0], [0], [0], [0], [0], [0]] [0, 0, 0, 4, 12, 28, 1, 65, 253, 509, 1021, 2, 2050, 8191, 16383, 32767] mixed hp_46 16 (by kernel_rfl) (fun w_47 hp_48 => ?_)
 obtain ⟨cs_53, rp_52, q_54⟩ := arr_elem (rep_vec (E := selvageref16_Cell_E) (F := F) (w := w) (x := (⟨0, ([] : List Int)⟩ : selvageref16_Cell)) ⟨none, 0, rfl, (RdS.nil _ _)⟩) (show 0 ≤ (1 : Int) ∧ (1 : Int) < (32 : Int) by decide)
 obtain ⟨A_49, c_50, rfl, q_51⟩ := rp_52
 refine w_takes (f := 4) tb [0, 1] (Wp.of hp_48 [0, 1] rfl) [⟨_, _, [1], fun w h => arr_at (pre := ([] : List Value)) (post := ([] : List Value) ++ ((List.replicate 400 ([.int .i64 0, .slice none 0 0] : List Value)).flatten ++ ([.int .i64 1, .slice none 0 0, .slice none 0 0, .slice none 0 0, .int .i64 (-1), .int .i64 0, .slice none 0 0, .slice A_4 a3.length c_5, .int .i64 a1, .int .i64 (wrap64 (1048576 + (wrap64 (65536 * a2))))] : List Value))) (h.get (i := 1) (j := 0) rfl rfl) rfl rfl q_54⟩] [.a 65 2 b_44 0 _ _ (show 0 ≤ (1 : Int) ∧ (1 : Int) < (32 : Int) by decide)] [⟨1, 864, _, _, [1], fun w h => cells_box (sz := 10) (h.get (i := 1) (j := 0) rfl rfl) (segs 0 864 10 rfl (segs 64 800 10 (arr_len (rep_vec (E := selvageref16_Cell_E) (F := F) (w := w) (x := (⟨0, ([] : List Int)⟩ : selvageref16_Cell)) ⟨none, 0, rfl, (RdS.nil _ _)⟩) rfl) (segs 0 800 10 rfl (segs 800 0 10 (arr_len (rep_vec (E := selvageref16_Cell_E) (F := F) (w := w) (x := (⟨0, ([] : List Int)⟩ : selvageref16_Cell)) ⟨none, 0, rfl, (RdS.nil _ _)⟩) rfl) rfl))))⟩] [(12, 1, 0)] [] [0, 1, 2, 3, 4, 6, 7, 11, 12, 5, 8, 9] 7167 [(68, .pointer (some ⟨b_44, 0, none⟩)), (62, .int .i64 (wrap64 (1048576 + (wrap64 (65536 * a2))))), (66, .pointer (some ⟨b_44, 0 + (1 : Int).toNat * 2, none⟩))] (fun _ => (po_then po_body)) rfl rfl (by kernel_rfl) fun σ => ?_
 refine w_one (m' := 8191) 10 rfl (by kernel_rfl) (by kernel_rfl) ?_
 refine s_storeA (E := selvageref16_Cell_E) (i := 1) (inn := 0) (r := 1) (el := (⟨wrap64 (1048576 + (wrap64 (65536 * a2))), (vg (Vector.replicate 32 (⟨0, ([] : List Int)⟩ : selvageref16_Cell)) 1).Hang⟩ : selvageref16_Cell)) (vs := [.int .i64 (wrap64 (1048576 + (wrap64 (65536 * a2))))]) (pre := ([] : List Value)) (post := ([] : List Value) ++ ((List.replicate 400 ([.int .i64 0, .slice none 0 0] : List Value)).flatten ++ ([.int .i64 1, .slice none 0 0, .slice none 0 0, .slice none 0 0, .int .i64 (-1), .int .i64 0, .slice none 0 0, .slice A_4 a3.length c_5, .int .i64 a1, .int .i64 (wrap64 (1048576 + (wrap64 (65536 * a2))))] : List Value))) (fun q_ => (([] : List Value) ++ (q_ ++ (([] : List Value) ++ ((List.replicate 400 ([.int .i64 0, .slice none 0 0] : List Value)).flatten ++ ([.int .i64 1, .slice none 0 0, .slice none 0 0, .slice none 0 0, .int .i64 (-1), .int .i64 0, .slice none 0 0, .slice A_4 a3.length c_5, .int .i64 a1, .int .i64 (wrap64 (1048576 + (wrap64 (65536 * a2))))] : List Value)))))) hp_48 (tm rfl rfl) (tm rfl rfl) rfl Try.sizeOf2 rfl rfl rfl rfl (fun _ => rfl) rfl (rep_vec (E := selvageref16_Cell_E) (F := F) (w := w) (x := (⟨0, ([] : List Int)⟩ : selvageref16_Cell)) ⟨none, 0, rfl, (RdS.nil _ _)⟩) (show 0 ≤ (1 : Int) ∧ (1 : Int) < (32 : Int) by decide) rfl q_54 ⟨A_49, c_50, rfl, q_51⟩ (fun w_55 cs_57 hp_56 q_58 => ?_)
 refine k_nil ?_
 refine ⟨(Wp.of hp_56 [0] rfl), ?_⟩
 obtain ⟨cs_63, rp_62, q_64⟩ := arr_elem (rep_vec (E := selvageref16_Cell_E) (F := F) (w := w) (x := (⟨0, ([] : List Int)⟩ : selvageref16_Cell)) ⟨none, 0, rfl, (RdS.nil _ _)⟩) (show 0 ≤ (2 : Int) ∧ (2 : Int) < (32 : Int) by decide)
 obtain ⟨A_59, c_60, rfl, q_61⟩ := rp_62
 refine w_takes (f := 1) tb [0] (Wp.of hp_56 [0] rfl) [⟨_, _, [1], fun w h => arr_at (pre := ([] : List Value)) (post := ([] : List Value) ++ ((List.replicate 400 ([.int .i64 0, .slice none 0 0] : List Value)).flatten ++ ([.int .i64 1, .slice none 0 0, .slice none 0 0, .slice none 0 0, .int .i64 (-1), .int .i64 0, .slice none 0 0, .slice A_4 a3.length c_5, .int .i64 a1, .int .i64 (wrap64 (1048576 + (wrap64 (65536 * a2))))] : List Value))) (h.get (i := 1) (j := 0) rfl rfl) rfl rfl q_64⟩] [.a 69 2 b_44 0 _ _ (show 0 ≤ (2 : Int) ∧ (2 : Int) < (32 : Int) by decide)] [] [(68, 1, 0)] [] [13, 14] 32767 [(70, .pointer (some ⟨b_44, 0 + (2 : Int).toNat * 2, none⟩))] (fun _ => (po_then po_body)) rfl rfl (by kernel_rfl) fun σ => ?_
 refine w_one (m' := 65535) 15 rfl (by kernel_rfl) (by kernel_rfl) ?_
 obtain ⟨cs_71, rp_70, q_72⟩ := arr_elem q_58 (show 0 ≤ (2 : Int) ∧ (2 : Int) < (32 : Int) by decide)
 obtain ⟨A_67, c_68, rfl, q_69⟩ := rp_70
 refine s_storeA (E := selvageref16_Cell_E) (i := 2) (inn := 0) (r := 1) (el := (⟨65536, (vg (vp (Vector.replicate 32 (⟨0, ([] : List Int)⟩ : selvageref16_Cell)) 1 (⟨wrap64 (1048576 + (wrap64 (65536 * a2))), (vg (Vector.replicate 32 (⟨0, ([] : List Int)⟩ : selvageref16_Cell)) 1).Hang⟩ : selvageref16_Cell)) 2).Hang⟩ : selvageref16_Cell)) (vs := [.int .i64 65536]) (pre := ([] : List Value)) (post := ([] : List Value) ++ ((List.replicate 400 ([.int .i64 0, .slice none 0 0] : List Value)).flatten ++ ([.int .i64 1, .slice none 0 0, .slice none 0 0, .slice none 0 0, .int .i64 (-1), .int .i64 0, .slice none 0 0, .slice A_4 a3.length c_5, .int .i64 a1, .int .i64 (wrap64 (1048576 + (wrap64 (65536 * a2))))] : List Value))) (fun q_ => (([] : List Value) ++ (q_ ++ (([] : List Value) ++ ((List.replicate 400 ([.int .i64 0, .slice none 0 0] : List Value)).flatten ++ ([.int .i64 1, .slice none 0 0, .slice none 0 0, .slice none 0 0, .int .i64 (-1), .int .i64 0, .slice none 0 0, .slice A_4 a3.length c_5, .int .i64 a1, .int .i64 (wrap64 (1048576 + (wrap64 (65536 * a2))))] : List Value)))))) hp_56 (tm rfl rfl) rfl rfl Try.sizeOf2 rfl rfl rfl rfl (fun _ => rfl) rfl q_58 (show 0 ≤ (2 : Int) ∧ (2 : Int) < (32 : Int) by decide) rfl q_72 ⟨A_67, c_68, rfl, q_69⟩ (fun w_65 cs_73 hp_66 q_74 => ?_)
 refine k_nil ?_
 refine ⟨(Wp.of hp_66 [0] rfl), ?_⟩
 refine w_done (by kernel_rfl) ?_
 refine kq tb hp_66 [] [(13, .int .i64 0)] (by kernel_rfl) fun σ => ?_
 refine k_seq ?_
 refine kq tb hp_66 [] [(14, .int .i64 0)] (by kernel_rfl) fun σ => ?_
 obtain ⟨o_75, H, G_76⟩ := bindSome H
 refine k_cut (fun a w' => ∃ (s_77 : selvageref16_state × Int) (σ_421 : Nat → Value) (I_424 : Nat → Prop) (w_425 : World) (cs_428 : List Value) (cs_430 : List Value) (A_432 : Option Addr) (c_433 : Nat) (A_435 : Option Addr) (c_436 : Nat) (A_438 : Option Addr) (c_439 : Nat) (A_441 : Option Addr) (c_442 : Nat) (X_444 : Rsc) (A_445 : Option Addr) (c_446 : Nat), o_75 = Sum.inl s_77 ∧ a = st 200 [(0, .slice A_1 a0.length c_2), (8, .pointer (some ⟨b_7, 0, none⟩)), (12, .pointer (some ⟨b_44, 0, none⟩)), (13, .int .i64 s_77.2)] σ_421 [] ∧ Ep F [] w I_424 w_425 ∧ Hp (On []) I_424 w w_425 w' [[(b_7, .cells #[.slice none 0 0, .int .i64 0] 28 (0, 0))], [(b_44, .cells (([] : List Value) ++ (cs_428 ++ (([] : List Value) ++ (cs_430 ++ ([.int .i64 s_77.1.cmp.N, .slice A_432 s_77.1.cmp.Hang.length c_433, .slice A_435 s_77.1.ctrl.length c_436, .slice A_438 s_77.1.fenced.length c_439, .int .i64 s_77.1.hold, .int .i64 s_77.1.held, .slice A_441 s_77.1.events.length c_442, .slice A_445 s_77.1.answers.length c_446, .int .i64 s_77.1.locs, .int .i64 s_77.1.base] : List Value))))).toArray 71 (0, 0))], X_444] ∧ Reps selvageref16_Cell_E I_424 w_425 s_77.1.regs.toList cs_428 ∧ Reps selvageref16_Cell_E I_424 w_425 s_77.1.stack.toList cs_430 ∧ RdS (intE .i64) I_424 w_425 A_432 c_433 s_77.1.cmp.Hang ∧ RdS (intE .i64) I_424 w_425 A_435 c_436 s_77.1.ctrl ∧ RdS (intE .i64) I_424 w_425 A_438 c_439 s_77.1.fenced ∧ Own api_Event_E no wz 33 A_441 c_442 s_77.1.events X_444 ∧ RdS (intE .i64) I_424 w_425 A_445 c_446 s_77.1.answers ∧ RdS api_Inst_E I_424 w_425 A_1 c_2 a0) ?_ ?_
 ·as_aux_lemma =>
  refine k_block ?_
  refine k_lp (fun (x_78 : selvageref16_state × Int × Int) a w' => ∃ (σ_387 : Nat → Value) (I_390 : Nat → Prop) (w_391 : World) (cs_394 : List Value) (cs_396 : List Value) (A_398 : Option Addr) (c_399 : Nat) (A_401 : Option Addr) (c_402 : Nat) (A_404 : Option Addr) (c_405 : Nat) (A_407 : Option Addr) (c_408 : Nat) (X_410 : Rsc) (A_411 : Option Addr) (c_412 : Nat), a = st 200 [(0, .slice A_1 a0.length c_2), (8, .pointer (some ⟨b_7, 0, none⟩)), (12, .pointer (some ⟨b_44, 0, none⟩)), (13, .int .i64 x_78.2.1), (14, .int .i64 x_78.2.2)] σ_387 [] ∧ Ep F [] w I_390 w_391 ∧ Hp (On []) I_390 w w_391 w' [[(b_7, .cells #[.slice none 0 0, .int .i64 0] 28 (0, 0))], [(b_44, .cells (([] : List Value) ++ (cs_394 ++ (([] : List Value) ++ (cs_396 ++ ([.int .i64 x_78.1.cmp.N, .slice A_398 x_78.1.cmp.Hang.length c_399, .slice A_401 x_78.1.ctrl.length c_402, .slice A_404 x_78.1.fenced.length c_405, .int .i64 x_78.1.hold, .int .i64 x_78.1.held, .slice A_407 x_78.1.events.length c_408, .slice A_411 x_78.1.answers.length c_412, .int .i64 x_78.1.locs, .int .i64 x_78.1.base] : List Value))))).toArray 71 (0, 0))], X_410] ∧ Reps selvageref16_Cell_E I_390 w_391 x_78.1.regs.toList cs_394 ∧ Reps selvageref16_Cell_E I_390 w_391 x_78.1.stack.toList cs_396 ∧ RdS (intE .i64) I_390 w_391 A_398 c_399 x_78.1.cmp.Hang ∧ RdS (intE .i64) I_390 w_391 A_401 c_402 x_78.1.ctrl ∧ RdS (intE .i64) I_390 w_391 A_404 c_405 x_78.1.fenced ∧ Own api_Event_E no wz 33 A_407 c_408 x_78.1.events X_410 ∧ RdS (intE .i64) I_390 w_391 A_411 c_412 x_78.1.answers ∧ RdS api_Inst_E I_390 w_391 A_1 c_2 a0) H ⟨_, F, w, cs_73, (List.replicate 400 ([.int .i64 0, .slice none 0 0] : List Value)).flatten, none, 0, none, 0, none, 0, none, 0, [], A_4, c_5, seenF ⟨rfl, rfl, rfl, rfl, rfl, trivial⟩, ep0, hp_66.pick [0, 1, 2] (by decide) rfl, q_74, (rep_vec (E := selvageref16_Cell_E) (F := F) (w := w) (x := (⟨0, ([] : List Int)⟩ : selvageref16_Cell)) ⟨none, 0, rfl, (RdS.nil _ _)⟩), (RdS.nil _ _), (RdS.nil _ _), (RdS.nil _ _), Own.nil _ _ _ _, q_6, q_3⟩ ?_
  clear H
  rintro x_78 a w' z_ ⟨σ_81, I_84, w_85, cs_88, cs_90, A_92, c_93, A_95, c_96, A_98, c_99, A_101, c_102, X_104, A_105, c_106, rfl, ep_86, hp_82, q_89, q_91, q_94, q_97, q_100, q_103, q_107, q_108⟩ H hz_79
  unfold selvageref16_Do.l1 at H
  refine k_seq ?_
  refine kq tb hp_82 [] [(72, .bool (decide (x_78.2.2 < 8000)))] (by kernel_rfl) fun σ => ?_
  refine k_if (tm rfl rfl) (fun h_109 => ?_) (fun h_109 => ?_)
  ·as_aux_lemma =>
   have H := ift h_109 H
   refine k_skip ?_
   refine k_seq ?_
   refine k_block ?_
   refine k_seq ?_
   refine kq tb hp_82 [] [(78, bif (!(decide (x_78.2.1 < 0))) then (.int .i64 x_78.2.1) else undef), (79, bif (!(decide (x_78.2.1 < 0))) then (.slice A_1 a0.length c_2) else undef), (80, bif (!(decide (x_78.2.1 < 0))) then (.int .i64 (a0.length : Int)) else undef), (81, bif (!(decide (x_78.2.1 < 0))) then (.bool (decide (x_78.2.1 ≥ (a0.length : Int)))) else undef), (82, .bool ((decide (x_78.2.1 < 0)) || (decide (x_78.2.1 ≥ (a0.length : Int)))))] (by kernel_rfl) fun σ => ?_
   refine k_if (tm rfl rfl) (fun h_110 => ?_) (fun h_110 => ?_)
   ·have H := ift h_110 H
    refine k_seq ?_
    refine k_region ?_
    refine srx tb hp_82 [] [] [⟨1, 864, _, _, cells_box (sz := 10) (hp_82.get (i := 1) (j := 0) rfl rfl) (segs 0 864 10 rfl (segs 64 800 10 (arr_len q_89 rfl) (segs 0 800 10 rfl (segs 800 0 10 (arr_len q_91 rfl) rfl))))⟩] [(12, 1, 0)] [] 5 [(87, .agg #[.slice A_101 x_78.1.events.length c_102, .int .i64 6])] (by kernel_rfl) fun σ => ?_
    refine s_store (i := 0) (j := 0) (vs := [.slice A_101 x_78.1.events.length c_102, .int .i64 6]) (l' := [.slice A_101 x_78.1.events.length c_102, .int .i64 6]) hp_82 (tm rfl rfl) (tm rfl rfl) rfl Try.sizeOf28 rfl rfl rfl rfl rfl rfl (fun w_111 hp_112 => ?_)
    refine k_nil ?_
    refine k_ret ?_
    refine q_ret ?_
    refine q_ret ?_
    obtain ⟨v_, H', hv_⟩ := mapSome H
    have hv_ := hz_79 _ hv_
    subst hv_
    have H := H'
    clear H'
    obtain ⟨v_, H', hv_⟩ := mapSome H
    subst hv_
    have H := H'.trans (show some v_ = _ from G_76)
    obtain rfl := Option.some.inj H
    exact k_end rfl (.cell rfl rfl (r_loadA Try.isAgg28 Try.sizeOf28 rfl (cells_box (sz := 2) (hp_112.get (i := 0) (j := 0) rfl rfl) rfl)) .nil) rfl ⟨_, A_101, c_102, X_104, rfl, q_103, (Ep.frz ep_86 (hp_112.pick [2] (by decide) rfl)), (hp_112.pick [2] (by decide) rfl).aft⟩
   have H := iff_ h_110 H
   refine k_skip ?_
   refine k_seq ?_
   refine k_region ?_
   obtain ⟨g_113, H⟩ := grd H
   obtain ⟨a_118, cs_115, pl_116, q_117, rp_114⟩ := rd_idx q_108 g_113
   obtain rfl : cs_115 = [.int .i64 ((gi a0 x_78.2.1).Op), .int .i64 ((gi a0 x_78.2.1).T), .int .i64 ((gi a0 x_78.2.1).A), .int .i64 ((gi a0 x_78.2.1).B), .int .i64 ((gi a0 x_78.2.1).Imm)] := rp_114
   refine srx tb hp_82 [⟨_, _, (hp_82.ep q_117)⟩] [.s 90 3 _ _ c_2 _ 5 _ pl_116 g_113] [] [] [] 4 [(91, .agg #[.int .i64 ((gi a0 x_78.2.1).Op), .int .i64 ((gi a0 x_78.2.1).T), .int .i64 ((gi a0 x_78.2.1).A), .int .i64 ((gi a0 x_78.2.1).B), .int .i64 ((gi a0 x_78.2.1).Imm)])] (by kernel_rfl) fun σ => ?_
   refine s_alloc (zv := .agg #[.int .i64 0, .int .i64 0, .int .i64 0, .int .i64 0, .int .i64 0]) (l := [.int .i64 0, .int .i64 0, .int .i64 0, .int .i64 0, .int .i64 0]) hp_82 (by intro w_; kernel_rfl) rfl rfl (fun b_119 w_120 hp_121 => ?_)
   refine s_store (i := 3) (j := 0) (vs := [.int .i64 ((gi a0 x_78.2.1).Op), .int .i64 ((gi a0 x_78.2.1).T), .int .i64 ((gi a0 x_78.2.1).A), .int .i64 ((gi a0 x_78.2.1).B), .int .i64 ((gi a0 x_78.2.1).Imm)]) (l' := [.int .i64 ((gi a0 x_78.2.1).Op), .int .i64 ((gi a0 x_78.2.1).T), .int .i64 ((gi a0 x_78.2.1).A), .int .i64 ((gi a0 x_78.2.1).B), .int .i64 ((gi a0 x_78.2.1).Imm)]) hp_121 (tm rfl rfl) (tm rfl rfl) rfl Try.sizeOf44 rfl rfl rfl rfl rfl rfl (fun w_122 hp_123 => ?_)
   refine k_nil ?_
   refine kq tb hp_123 [] [(13, .int .i64 (wrap64 (x_78.2.1 + 1)))] (by kernel_rfl) fun σ => ?_
   refine kq tb hp_123 [] [(16, .int .i64 0)] (by kernel_rfl) fun σ => ?_
   refine k_seq ?_
   refine kq tb hp_123 [(15, 3, 0)] [(95, .int .i64 ((gi a0 x_78.2.1).Op))] (by kernel_rfl) fun σ => ?_
   obtain ⟨o_124, H, G_125⟩ := bindSome H
   refine k_cut (fun a w' => ∃ (σ_387 : Nat → Value) (I_390 : Nat → Prop) (w_391 : World) (cs_394 : List Value) (cs_396 : List Value) (A_398 : Option Addr) (c_399 : Nat) (A_401 : Option Addr) (c_402 : Nat) (A_404 : Option Addr) (c_405 : Nat) (A_407 : Option Addr) (c_408 : Nat) (X_410 : Rsc) (A_411 : Option Addr) (c_412 : Nat), a = st 200 [(0, .slice A_1 a0.length c_2), (8, .pointer (some ⟨b_7, 0, none⟩)), (12, .pointer (some ⟨b_44, 0, none⟩)), (13, .int .i64 o_124.2.1), (14, .int .i64 x_78.2.2), (16, .int .i64 o_124.2.2)] σ_387 [] ∧ Ep F [] w I_390 w_391 ∧ Hp (On []) I_390 w w_391 w' [[(b_7, .cells #[.slice none 0 0, .int .i64 0] 28 (0, 0))], [(b_44, .cells (([] : List Value) ++ (cs_394 ++ (([] : List Value) ++ (cs_396 ++ ([.int .i64 o_124.1.cmp.N, .slice A_398 o_124.1.cmp.Hang.length c_399, .slice A_401 o_124.1.ctrl.length c_402, .slice A_404 o_124.1.fenced.length c_405, .int .i64 o_124.1.hold, .int .i64 o_124.1.held, .slice A_407 o_124.1.events.length c_408, .slice A_411 o_124.1.answers.length c_412, .int .i64 o_124.1.locs, .int .i64 o_124.1.base] : List Value))))).toArray 71 (0, 0))], X_410] ∧ Reps selvageref16_Cell_E I_390 w_391 o_124.1.regs.toList cs_394 ∧ Reps selvageref16_Cell_E I_390 w_391 o_124.1.stack.toList cs_396 ∧ RdS (intE .i64) I_390 w_391 A_398 c_399 o_124.1.cmp.Hang ∧ RdS (intE .i64) I_390 w_391 A_401 c_402 o_124.1.ctrl ∧ RdS (intE .i64) I_390 w_391 A_404 c_405 o_124.1.fenced ∧ Own api_Event_E no wz 33 A_407 c_408 o_124.1.events X_410 ∧ RdS (intE .i64) I_390 w_391 A_411 c_412 o_124.1.answers ∧ RdS api_Inst_E I_390 w_391 A_1 c_2 a0) ?_ ?_
   ·as_aux_lemma =>
    refine k_block ?_
    refine k_seq ?_
    refine kq tb hp_123 [] [(99, .bool (decide (((gi a0 x_78.2.1).Op) = 10)))] (by kernel_rfl) fun σ => ?_
    obtain ⟨o_126, H, G_127⟩ := bindSome H
    refine k_cut (fun a w' => ∃ (σ_355 : Nat → Value), a = st 200 [(0, .slice A_1 a0.length c_2), (8, .pointer (some ⟨b_7, 0, none⟩)), (12, .pointer (some ⟨b_44, 0, none⟩)), (13, .int .i64 (wrap64 (x_78.2.1 + 1))), (14, .int .i64 x_78.2.2), (15, .pointer (some ⟨b_119, 0, none⟩)), (16, .int .i64 0), (95, .int .i64 ((gi a0 x_78.2.1).Op)), (99, .bool o_126)] σ_355 [] ∧ Hp (On []) I_84 w w_85 w' [[(b_7, .cells #[.slice none 0 0, .int .i64 0] 28 (0, 0))], [(b_44, .cells (([] : List Value) ++ (cs_88 ++ (([] : List Value) ++ (cs_90 ++ ([.int .i64 x_78.1.cmp.N, .slice A_92 x_78.1.cmp.Hang.length c_93, .slice A_95 x_78.1.ctrl.length c_96, .slice A_98 x_78.1.fenced.length c_99, .int .i64 x_78.1.hold, .int .i64 x_78.1.held, .slice A_101 x_78.1.events.length c_102, .slice A_105 x_78.1.answers.length c_106, .int .i64 x_78.1.locs, .int .i64 x_78.1.base] : List Value))))).toArray 71 (0, 0))], X_104, [(b_119, .cells #[.int .i64 ((gi a0 x_78.2.1).Op), .int .i64 ((gi a0 x_78.2.1).T), .int .i64 ((gi a0 x_78.2.1).A), .int .i64 ((gi a0 x_78.2.1).B), .int .i64 ((gi a0 x_78.2.1).Imm)] 44 (0, 0))]]) ?_ ?_
    ·as_aux_lemma =>
     refine k_if (tm rfl rfl) (fun h_128 => ?_) (fun h_128 => ?_)
     ·have H := ift h_128 H
      refine k_skip ?_
      obtain rfl := Option.some.inj H
      exact ⟨_, seenF ⟨rfl, rfl, rfl, rfl, rfl, rfl, rfl, rfl, rfl, trivial⟩, hp_123⟩
     have H := iff_ h_128 H
     refine kq tb hp_123 [] [(99, .bool (decide (((gi a0 x_78.2.1).Op) = 12)))] (by kernel_rfl) fun σ => ?_
     refine k_if (tm rfl rfl) (fun h_129 => ?_) (fun h_129 => ?_)
     ·have H := ift h_129 H
      refine k_skip ?_
      obtain rfl := Option.some.inj H
      exact ⟨_, seenF ⟨rfl, rfl, rfl, rfl, rfl, rfl, rfl, rfl, rfl, trivial⟩, hp_123⟩
     have H := iff_ h_129 H
     refine kq tb hp_123 [] [(99, .bool (decide (((gi a0 x_78.2.1).Op) = 14)))] (by kernel_rfl) fun σ => ?_
     refine k_if (tm rfl rfl) (fun h_130 => ?_) (fun h_130 => ?_)
     ·have H := ift h_130 H
      refine k_skip ?_
      obtain rfl := Option.some.inj H
      exact ⟨_, seenF ⟨rfl, rfl, rfl, rfl, rfl, rfl, rfl, rfl, rfl, trivial⟩, hp_123⟩
     have H := iff_ h_130 H
     refine kq tb hp_123 [] [(99, .bool (decide (((gi a0 x_78.2.1).Op) = 11)))] (by kernel_rfl) fun σ => ?_
     refine k_if (tm rfl rfl) (fun h_131 => ?_) (fun h_131 => ?_)
     ·have H := ift h_131 H
      refine k_skip ?_
      obtain rfl := Option.some.inj H
      exact ⟨_, seenF ⟨rfl, rfl, rfl, rfl, rfl, rfl, rfl, rfl, rfl, trivial⟩, hp_123⟩
     have H := iff_ h_131 H
     refine kq tb hp_123 [] [(99, .bool (decide (((gi a0 x_78.2.1).Op) = 13)))] (by kernel_rfl) fun σ => ?_
     refine k_if (tm rfl rfl) (fun h_132 => ?_) (fun h_132 => ?_)
     ·have H := ift h_132 H
      refine k_skip ?_
      obtain rfl := Option.some.inj H
      exact ⟨_, seenF ⟨rfl, rfl, rfl, rfl, rfl, rfl, rfl, rfl, rfl, trivial⟩, hp_123⟩
     have H := iff_ h_132 H
     refine kr tb hp_123 [] [(99, .bool (decide (((gi a0 x_78.2.1).Op) = 15)))] (by kernel_rfl) fun σ => ?_
     obtain rfl := Option.some.inj H
     exact ⟨_, seenF ⟨rfl, rfl, rfl, rfl, rfl, rfl, rfl, rfl, rfl, trivial⟩, hp_123⟩
    clear H
    rintro a w' ⟨σ_133, rfl, hp_134⟩
    have H := G_127
    refine k_if (tm rfl rfl) (fun h_137 => ?_) (fun h_137 => ?_)
    ·have H := ift h_137 H
     refine k_region ?_
     refine sr tb hp_134 [(12, 1, 0), (15, 3, 0)] 2 [(106, .pointer (some ⟨b_44, 0, none⟩)), (107, .agg #[.int .i64 ((gi a0 x_78.2.1).Op), .int .i64 ((gi a0 x_78.2.1).T), .int .i64 ((gi a0 x_78.2.1).A), .int .i64 ((gi a0 x_78.2.1).B), .int .i64 ((gi a0 x_78.2.1).Imm)])] (by kernel_rfl) fun σ => ?_
     have hp_138 := Hp.pick (R' := [[(b_44, .cells (([] : List Value) ++ (cs_88 ++ (([] : List Value) ++ (cs_90 ++ ([.int .i64 x_78.1.cmp.N, .slice A_92 x_78.1.cmp.Hang.length c_93, .slice A_95 x_78.1.ctrl.length c_96, .slice A_98 x_78.1.fenced.length c_99, .int .i64 x_78.1.hold, .int .i64 x_78.1.held, .slice A_101 x_78.1.events.length c_102, .slice A_105 x_78.1.answers.length c_106, .int .i64 x_78.1.locs, .int .i64 x_78.1.base] : List Value))))).toArray 71 (0, 0))], X_104, [(b_7, .cells #[.slice none 0 0, .int .i64 0] 28 (0, 0))], [(b_119, .cells #[.int .i64 ((gi a0 x_78.2.1).Op), .int .i64 ((gi a0 x_78.2.1).T), .int .i64 ((gi a0 x_78.2.1).A), .int .i64 ((gi a0 x_78.2.1).B), .int .i64 ((gi a0 x_78.2.1).Imm)] 44 (0, 0))]]) [1, 2, 0, 3] hp_134 (by decide) rfl
     obtain ⟨r_140, hx_139, H⟩ := bindSome H
     refine s_call (.cons (tm rfl rfl) (.cons (tm rfl rfl) .nil)) Try.call22 (selvageref16_state_memory.calls x_78.1 b_44 cs_88 cs_90 A_92 c_93 A_95 c_96 A_98 c_99 A_101 c_102 X_104 A_105 c_106 (⟨(gi a0 x_78.2.1).Op, (gi a0 x_78.2.1).T, (gi a0 x_78.2.1).A, (gi a0 x_78.2.1).B, (gi a0 x_78.2.1).Imm⟩ : api_Inst) r_140 _ _ (Hp.offI hp_138 [[(b_44, .cells (([] : List Value) ++ (cs_88 ++ (([] : List Value) ++ (cs_90 ++ ([.int .i64 x_78.1.cmp.N, .slice A_92 x_78.1.cmp.Hang.length c_93, .slice A_95 x_78.1.ctrl.length c_96, .slice A_98 x_78.1.fenced.length c_99, .int .i64 x_78.1.hold, .int .i64 x_78.1.held, .slice A_101 x_78.1.events.length c_102, .slice A_105 x_78.1.answers.length c_106, .int .i64 x_78.1.locs, .int .i64 x_78.1.base] : List Value))))).toArray 71 (0, 0))], X_104] _ rfl) (Hp.have1 hp_138 [[(b_44, .cells (([] : List Value) ++ (cs_88 ++ (([] : List Value) ++ (cs_90 ++ ([.int .i64 x_78.1.cmp.N, .slice A_92 x_78.1.cmp.Hang.length c_93, .slice A_95 x_78.1.ctrl.length c_96, .slice A_98 x_78.1.fenced.length c_99, .int .i64 x_78.1.hold, .int .i64 x_78.1.held, .slice A_101 x_78.1.events.length c_102, .slice A_105 x_78.1.answers.length c_106, .int .i64 x_78.1.locs, .int .i64 x_78.1.base] : List Value))))).toArray 71 (0, 0))], X_104] _ rfl) (Reps.up q_89 (Hp.up hp_138)) (Reps.up q_91 (Hp.up hp_138)) (RdS.now q_94 hp_138) (RdS.now q_97 hp_138) (RdS.now q_100 hp_138) q_103 (RdS.now q_107 hp_138) hx_139) rfl ?_
     rintro v_ w_141 ⟨I_143, cs_146, cs_148, A_150, c_151, A_155, c_156, X_158, A_159, c_160, rfl, q_147, q_149, q_152, q_153, q_154, q_157, q_161, z_144, af_145⟩
     have hp_142 := Hp.callZA af_145 z_144 hp_138
     have ep_162 := Ep.callA z_144 ep_86 hp_138
     have u_163 := Hp.upZ hp_138 z_144
     have q_164 := q_108.up u_163
     have q_165 := q_89.up u_163
     have q_166 := q_91.up u_163
     have q_167 := q_94.up u_163
     have q_168 := q_97.up u_163
     have q_169 := q_100.up u_163
     have q_170 := q_107.up u_163
     refine sv (v := .int .i64 r_140.1) rfl rfl rfl (e_assign (tm rfl rfl)) ?_
     refine k_nil ?_
     obtain rfl := Option.some.inj H
     exact ⟨_, I_143, w_141, cs_146, cs_148, A_150, c_151, A_95, c_96, A_98, c_99, A_155, c_156, X_158, A_159, c_160, seenF ⟨rfl, rfl, rfl, rfl, rfl, rfl, trivial⟩, ep_162, hp_142.pick [2, 0, 1] (by decide) rfl, q_147, q_149, q_152, q_153, q_154, q_157, q_161, q_164⟩
    have H := iff_ h_137 H
    refine k_seq ?_
    refine kq tb hp_134 [] [(109, .bool (decide (((gi a0 x_78.2.1).Op) = 18)))] (by kernel_rfl) fun σ => ?_
    obtain ⟨o_171, H, G_172⟩ := bindSome H
    refine k_cut (fun a w' => ∃ (σ_354 : Nat → Value), a = st 200 [(0, .slice A_1 a0.length c_2), (8, .pointer (some ⟨b_7, 0, none⟩)), (12, .pointer (some ⟨b_44, 0, none⟩)), (13, .int .i64 (wrap64 (x_78.2.1 + 1))), (14, .int .i64 x_78.2.2), (15, .pointer (some ⟨b_119, 0, none⟩)), (16, .int .i64 0), (95, .int .i64 ((gi a0 x_78.2.1).Op)), (109, .bool o_171)] σ_354 [] ∧ Hp (On []) I_84 w w_85 w' [[(b_7, .cells #[.slice none 0 0, .int .i64 0] 28 (0, 0))], [(b_44, .cells (([] : List Value) ++ (cs_88 ++ (([] : List Value) ++ (cs_90 ++ ([.int .i64 x_78.1.cmp.N, .slice A_92 x_78.1.cmp.Hang.length c_93, .slice A_95 x_78.1.ctrl.length c_96, .slice A_98 x_78.1.fenced.length c_99, .int .i64 x_78.1.hold, .int .i64 x_78.1.held, .slice A_101 x_78.1.events.length c_102, .slice A_105 x_78.1.answers.length c_106, .int .i64 x_78.1.locs, .int .i64 x_78.1.base] : List Value))))).toArray 71 (0, 0))], X_104, [(b_119, .cells #[.int .i64 ((gi a0 x_78.2.1).Op), .int .i64 ((gi a0 x_78.2.1).T), .int .i64 ((gi a0 x_78.2.1).A), .int .i64 ((gi a0 x_78.2.1).B), .int .i64 ((gi a0 x_78.2.1).Imm)] 44 (0, 0))]]) ?_ ?_
    ·refine k_if (tm rfl rfl) (fun h_173 => ?_) (fun h_173 => ?_)
     ·have H := ift h_173 H
      refine k_skip ?_
      obtain rfl := Option.some.inj H
      exact ⟨_, seenF ⟨rfl, rfl, rfl, rfl, rfl, rfl, rfl, rfl, rfl, trivial⟩, hp_134⟩
     have H := iff_ h_173 H
     refine kr tb hp_134 [] [(109, .bool (decide (((gi a0 x_78.2.1).Op) = 19)))] (by kernel_rfl) fun σ => ?_
     obtain rfl := Option.some.inj H
     exact ⟨_, seenF ⟨rfl, rfl, rfl, rfl, rfl, rfl, rfl, rfl, rfl, trivial⟩, hp_134⟩
    clear H
    rintro a w' ⟨σ_174, rfl, hp_175⟩
    have H := G_172
    refine k_if (tm rfl rfl) (fun h_178 => ?_) (fun h_178 => ?_)
    ·as_aux_lemma =>
     have H := ift h_178 H
     refine k_seq ?_
     refine k_region ?_
     refine sr tb hp_175 [(12, 1, 0), (15, 3, 0)] 2 [(112, .pointer (some ⟨b_44, 0, none⟩)), (113, .agg #[.int .i64 ((gi a0 x_78.2.1).Op), .int .i64 ((gi a0 x_78.2.1).T), .int .i64 ((gi a0 x_78.2.1).A), .int .i64 ((gi a0 x_78.2.1).B), .int .i64 ((gi a0 x_78.2.1).Imm)])] (by kernel_rfl) fun σ => ?_
     have hp_179 := Hp.pick (R' := [[(b_44, .cells (([] : List Value) ++ (cs_88 ++ (([] : List Value) ++ (cs_90 ++ ([.int .i64 x_78.1.cmp.N, .slice A_92 x_78.1.cmp.Hang.length c_93, .slice A_95 x_78.1.ctrl.length c_96, .slice A_98 x_78.1.fenced.length c_99, .int .i64 x_78.1.hold, .int .i64 x_78.1.held, .slice A_101 x_78.1.events.length c_102, .slice A_105 x_78.1.answers.length c_106, .int .i64 x_78.1.locs, .int .i64 x_78.1.base] : List Value))))).toArray 71 (0, 0))], X_104, [(b_7, .cells #[.slice none 0 0, .int .i64 0] 28 (0, 0))], [(b_119, .cells #[.int .i64 ((gi a0 x_78.2.1).Op), .int .i64 ((gi a0 x_78.2.1).T), .int .i64 ((gi a0 x_78.2.1).A), .int .i64 ((gi a0 x_78.2.1).B), .int .i64 ((gi a0 x_78.2.1).Imm)] 44 (0, 0))]]) [1, 2, 0, 3] hp_175 (by decide) rfl
     obtain ⟨r_181, hx_180, H⟩ := bindSome H
     refine s_call (.cons (tm rfl rfl) (.cons (tm rfl rfl) .nil)) Try.call23 (selvageref16_state_taken.calls x_78.1 b_44 cs_88 cs_90 A_92 c_93 A_95 c_96 A_98 c_99 A_101 c_102 X_104 A_105 c_106 (⟨(gi a0 x_78.2.1).Op, (gi a0 x_78.2.1).T, (gi a0 x_78.2.1).A, (gi a0 x_78.2.1).B, (gi a0 x_78.2.1).Imm⟩ : api_Inst) r_181 _ _ (Hp.offI hp_179 [[(b_44, .cells (([] : List Value) ++ (cs_88 ++ (([] : List Value) ++ (cs_90 ++ ([.int .i64 x_78.1.cmp.N, .slice A_92 x_78.1.cmp.Hang.length c_93, .slice A_95 x_78.1.ctrl.length c_96, .slice A_98 x_78.1.fenced.length c_99, .int .i64 x_78.1.hold, .int .i64 x_78.1.held, .slice A_101 x_78.1.events.length c_102, .slice A_105 x_78.1.answers.length c_106, .int .i64 x_78.1.locs, .int .i64 x_78.1.base] : List Value))))).toArray 71 (0, 0))], X_104] _ rfl) (Hp.have1 hp_179 [[(b_44, .cells (([] : List Value) ++ (cs_88 ++ (([] : List Value) ++ (cs_90 ++ ([.int .i64 x_78.1.cmp.N, .slice A_92 x_78.1.cmp.Hang.length c_93, .slice A_95 x_78.1.ctrl.length c_96, .slice A_98 x_78.1.fenced.length c_99, .int .i64 x_78.1.hold, .int .i64 x_78.1.held, .slice A_101 x_78.1.events.length c_102, .slice A_105 x_78.1.answers.length c_106, .int .i64 x_78.1.locs, .int .i64 x_78.1.base] : List Value))))).toArray 71 (0, 0))], X_104] _ rfl) (Reps.up q_89 (Hp.up hp_179)) (Reps.up q_91 (Hp.up hp_179)) (RdS.now q_94 hp_179) (RdS.now q_97 hp_179) (RdS.now q_100 hp_179) q_103 (RdS.now q_107 hp_179) hx_180) rfl ?_
     rintro v_ w_182 ⟨I_184, cs_187, cs_189, A_192, c_193, X_197, rfl, q_188, q_190, q_191, q_194, q_195, q_196, q_198, z_185, af_186⟩
     have hp_183 := Hp.callZA af_186 z_185 hp_179
     have ep_199 := Ep.callA z_185 ep_86 hp_179
     have u_200 := Hp.upZ hp_179 z_185
     have q_201 := q_108.up u_200
     have q_202 := q_89.up u_200
     have q_203 := q_91.up u_200
     have q_204 := q_94.up u_200
     have q_205 := q_97.up u_200
     have q_206 := q_100.up u_200
     have q_207 := q_107.up u_200
     refine k_nil ?_
     refine k_if (tm rfl rfl) (fun h_208 => ?_) (fun h_208 => ?_)
     ·have H := ift h_208 H
      refine kr tb hp_183 [(15, 3, 0)] [(13, .int .i64 (wrap64 ((wrap64 (x_78.2.1 + 1)) + (wrap64 ((wrap64 (Int.tdiv ((gi a0 x_78.2.1).Imm) 4)) - 1)))))] (by kernel_rfl) fun σ => ?_
      obtain rfl := Option.some.inj H
      exact ⟨_, I_184, w_182, cs_187, cs_189, A_92, c_93, A_192, c_193, A_98, c_99, A_101, c_102, X_197, A_105, c_106, seenF ⟨rfl, rfl, rfl, rfl, rfl, rfl, trivial⟩, ep_199, hp_183.pick [2, 0, 1] (by decide) rfl, q_188, q_190, q_191, q_194, q_195, q_196, q_198, q_201⟩
     have H := iff_ h_208 H
     refine k_skip ?_
     obtain rfl := Option.some.inj H
     exact ⟨_, I_184, w_182, cs_187, cs_189, A_92, c_93, A_192, c_193, A_98, c_99, A_101, c_102, X_197, A_105, c_106, seenF ⟨rfl, rfl, rfl, rfl, rfl, rfl, trivial⟩, ep_199, hp_183.pick [2, 0, 1] (by decide) rfl, q_188, q_190, q_191, q_194, q_195, q_196, q_198, q_201⟩
    have H := iff_ h_178 H
    refine k_seq ?_
    refine kq tb hp_175 [] [(121, .bool (decide (((gi a0 x_78.2.1).Op) = 20)))] (by kernel_rfl) fun σ => ?_
    obtain ⟨o_209, H, G_210⟩ := bindSome H
    refine k_cut (fun a w' => ∃ (σ_353 : Nat → Value), a = st 200 [(0, .slice A_1 a0.length c_2), (8, .pointer (some ⟨b_7, 0, none⟩)), (12, .pointer (some ⟨b_44, 0, none⟩)), (13, .int .i64 (wrap64 (x_78.2.1 + 1))), (14, .int .i64 x_78.2.2), (15, .pointer (some ⟨b_119, 0, none⟩)), (16, .int .i64 0), (95, .int .i64 ((gi a0 x_78.2.1).Op)), (121, .bool o_209)] σ_353 [] ∧ Hp (On []) I_84 w w_85 w' [[(b_7, .cells #[.slice none 0 0, .int .i64 0] 28 (0, 0))], [(b_44, .cells (([] : List Value) ++ (cs_88 ++ (([] : List Value) ++ (cs_90 ++ ([.int .i64 x_78.1.cmp.N, .slice A_92 x_78.1.cmp.Hang.length c_93, .slice A_95 x_78.1.ctrl.length c_96, .slice A_98 x_78.1.fenced.length c_99, .int .i64 x_78.1.hold, .int .i64 x_78.1.held, .slice A_101 x_78.1.events.length c_102, .slice A_105 x_78.1.answers.length c_106, .int .i64 x_78.1.locs, .int .i64 x_78.1.base] : List Value))))).toArray 71 (0, 0))], X_104, [(b_119, .cells #[.int .i64 ((gi a0 x_78.2.1).Op), .int .i64 ((gi a0 x_78.2.1).T), .int .i64 ((gi a0 x_78.2.1).A), .int .i64 ((gi a0 x_78.2.1).B), .int .i64 ((gi a0 x_78.2.1).Imm)] 44 (0, 0))]]) ?_ ?_
    ·refine k_if (tm rfl rfl) (fun h_211 => ?_) (fun h_211 => ?_)
     ·have H := ift h_211 H
      refine k_skip ?_
      obtain rfl := Option.some.inj H
      exact ⟨_, seenF ⟨rfl, rfl, rfl, rfl, rfl, rfl, rfl, rfl, rfl, trivial⟩, hp_175⟩
     have H := iff_ h_211 H
     refine kq tb hp_175 [] [(121, .bool (decide (((gi a0 x_78.2.1).Op) = 21)))] (by kernel_rfl) fun σ => ?_
     refine k_if (tm rfl rfl) (fun h_212 => ?_) (fun h_212 => ?_)
     ·have H := ift h_212 H
      refine k_skip ?_
      obtain rfl := Option.some.inj H
      exact ⟨_, seenF ⟨rfl, rfl, rfl, rfl, rfl, rfl, rfl, rfl, rfl, trivial⟩, hp_175⟩
     have H := iff_ h_212 H
     refine kr tb hp_175 [] [(121, .bool (decide (((gi a0 x_78.2.1).Op) = 22)))] (by kernel_rfl) fun σ => ?_
     obtain rfl := Option.some.inj H
     exact ⟨_, seenF ⟨rfl, rfl, rfl, rfl, rfl, rfl, rfl, rfl, rfl, trivial⟩, hp_175⟩
    clear H
    rintro a w' ⟨σ_213, rfl, hp_214⟩
    have H := G_210
    refine k_if (tm rfl rfl) (fun h_217 => ?_) (fun h_217 => ?_)
    ·as_aux_lemma =>
     have H := ift h_217 H
     refine k_seq ?_
     refine k_seq ?_
     refine k_region ?_
     refine sr tb hp_214 [(12, 1, 0), (15, 3, 0)] 6 [(125, .pointer (some ⟨b_44, 0, none⟩)), (130, .agg #[.int .i64 (wrap64 ((wrap64 (((gi a0 x_78.2.1).Op) - 20)) + 3)), .int .i64 0, .int .i64 0, .int .i64 0, .int .u64 0, .int .u64 0, .int .u64 0, .int .u64 0])] (by kernel_rfl) fun σ => ?_
     have hp_218 := Hp.pick (R' := [[(b_44, .cells (([] : List Value) ++ (cs_88 ++ (([] : List Value) ++ (cs_90 ++ ([.int .i64 x_78.1.cmp.N, .slice A_92 x_78.1.cmp.Hang.length c_93, .slice A_95 x_78.1.ctrl.length c_96, .slice A_98 x_78.1.fenced.length c_99, .int .i64 x_78.1.hold, .int .i64 x_78.1.held, .slice A_101 x_78.1.events.length c_102, .slice A_105 x_78.1.answers.length c_106, .int .i64 x_78.1.locs, .int .i64 x_78.1.base] : List Value))))).toArray 71 (0, 0))], X_104, [(b_7, .cells #[.slice none 0 0, .int .i64 0] 28 (0, 0))], [(b_119, .cells #[.int .i64 ((gi a0 x_78.2.1).Op), .int .i64 ((gi a0 x_78.2.1).T), .int .i64 ((gi a0 x_78.2.1).A), .int .i64 ((gi a0 x_78.2.1).B), .int .i64 ((gi a0 x_78.2.1).Imm)] 44 (0, 0))]]) [1, 2, 0, 3] hp_214 (by decide) rfl
     obtain ⟨r_220, hx_219, H⟩ := bindSome H
     refine s_call (.cons (tm rfl rfl) (.cons (tm rfl rfl) .nil)) Try.call24 (selvageref16_state_event.calls x_78.1 b_44 cs_88 cs_90 A_92 c_93 A_95 c_96 A_98 c_99 A_101 c_102 X_104 A_105 c_106 (⟨wrap64 ((wrap64 (((gi a0 x_78.2.1).Op) - 20)) + 3), 0, 0, 0, 0, 0, 0, 0⟩ : api_Event) r_220 _ _ (Hp.offI hp_218 [[(b_44, .cells (([] : List Value) ++ (cs_88 ++ (([] : List Value) ++ (cs_90 ++ ([.int .i64 x_78.1.cmp.N, .slice A_92 x_78.1.cmp.Hang.length c_93, .slice A_95 x_78.1.ctrl.length c_96, .slice A_98 x_78.1.fenced.length c_99, .int .i64 x_78.1.hold, .int .i64 x_78.1.held, .slice A_101 x_78.1.events.length c_102, .slice A_105 x_78.1.answers.length c_106, .int .i64 x_78.1.locs, .int .i64 x_78.1.base] : List Value))))).toArray 71 (0, 0))], X_104] _ rfl) (Hp.have1 hp_218 [[(b_44, .cells (([] : List Value) ++ (cs_88 ++ (([] : List Value) ++ (cs_90 ++ ([.int .i64 x_78.1.cmp.N, .slice A_92 x_78.1.cmp.Hang.length c_93, .slice A_95 x_78.1.ctrl.length c_96, .slice A_98 x_78.1.fenced.length c_99, .int .i64 x_78.1.hold, .int .i64 x_78.1.held, .slice A_101 x_78.1.events.length c_102, .slice A_105 x_78.1.answers.length c_106, .int .i64 x_78.1.locs, .int .i64 x_78.1.base] : List Value))))).toArray 71 (0, 0))], X_104] _ rfl) (Reps.up q_89 (Hp.up hp_218)) (Reps.up q_91 (Hp.up hp_218)) (RdS.now q_94 hp_218) (RdS.now q_97 hp_218) (RdS.now q_100 hp_218) q_103 (RdS.now q_107 hp_218) hx_219) rfl ?_
     rintro v_ w_221 ⟨cs_225, cs_227, A_232, c_233, X_235, rfl, q_226, q_228, q_229, q_230, q_231, q_234, q_236, af_224⟩
     have hp_222 := Hp.callA af_224 hp_218
     have q_237 := q_226.up (Hp.down hp_218)
     have q_238 := q_228.up (Hp.down hp_218)
     have q_239 := q_229.up (Hp.down hp_218)
     have q_240 := q_230.up (Hp.down hp_218)
     have q_241 := q_231.up (Hp.down hp_218)
     have q_242 := q_236.up (Hp.down hp_218)
     refine sv (v := .bool (!r_220.1)) rfl rfl rfl (e_un (tm rfl rfl) (r_not rfl)) ?_
     refine k_nil ?_
     obtain ⟨o_243, H, G_244⟩ := bindSome H
     refine k_cut (fun a w' => ∃ (σ_280 : Nat → Value), a = st 200 [(0, .slice A_1 a0.length c_2), (8, .pointer (some ⟨b_7, 0, none⟩)), (12, .pointer (some ⟨b_44, 0, none⟩)), (13, .int .i64 (wrap64 (x_78.2.1 + 1))), (14, .int .i64 x_78.2.2), (15, .pointer (some ⟨b_119, 0, none⟩)), (16, .int .i64 o_243)] σ_280 [] ∧ Hp (On []) I_84 w w_85 w' [[(b_7, .cells #[.slice none 0 0, .int .i64 0] 28 (0, 0))], [(b_44, .cells (([] : List Value) ++ (cs_225 ++ (([] : List Value) ++ (cs_227 ++ ([.int .i64 r_220.2.cmp.N, .slice A_92 r_220.2.cmp.Hang.length c_93, .slice A_95 r_220.2.ctrl.length c_96, .slice A_98 r_220.2.fenced.length c_99, .int .i64 r_220.2.hold, .int .i64 r_220.2.held, .slice A_232 r_220.2.events.length c_233, .slice A_105 r_220.2.answers.length c_106, .int .i64 r_220.2.locs, .int .i64 r_220.2.base] : List Value))))).toArray 71 (0, 0))], X_235, [(b_119, .cells #[.int .i64 ((gi a0 x_78.2.1).Op), .int .i64 ((gi a0 x_78.2.1).T), .int .i64 ((gi a0 x_78.2.1).A), .int .i64 ((gi a0 x_78.2.1).B), .int .i64 ((gi a0 x_78.2.1).Imm)] 44 (0, 0))]]) ?_ ?_
     ·refine k_if (tm rfl rfl) (fun h_245 => ?_) (fun h_245 => ?_)
      ·have H := ift h_245 H
       refine kr tb hp_222 [] [(16, .int .i64 5)] (by kernel_rfl) fun σ => ?_
       obtain rfl := Option.some.inj H
       exact ⟨_, seenF ⟨rfl, rfl, rfl, rfl, rfl, rfl, rfl, trivial⟩, hp_222.pick [2, 0, 1, 3] (by decide) rfl⟩
      have H := iff_ h_245 H
      refine k_skip ?_
      obtain rfl := Option.some.inj H
      exact ⟨_, seenF ⟨rfl, rfl, rfl, rfl, rfl, rfl, rfl, trivial⟩, hp_222.pick [2, 0, 1, 3] (by decide) rfl⟩
     clear H
     rintro a w' ⟨σ_246, rfl, hp_247⟩
     have H := G_244
     refine kq tb hp_247 [(15, 3, 0)] [(135, .bool (decide (((gi a0 x_78.2.1).Op) = 22)))] (by kernel_rfl) fun σ => ?_
     refine k_if (tm rfl rfl) (fun h_250 => ?_) (fun h_250 => ?_)
     ·as_aux_lemma =>
      have H := ift h_250 H
      refine k_anyF [[0, 1, 2, 3], [0, 1, 2, 3], [0, 1, 2, 3], [0, 1, 2, 3], [0, 1, 2, 3], [0, 1, 2, 3], [0, 1, 2, 3], [0, 1, 2, 3], [0, 1, 2, 3], [0, 1, 2, 3], [0, 1, 2, 3], [0, 1, 2, 3], [0, 2, 3]] [0, 0, 2, 6, 14, 0, 32, 96, 224, 510, 1023, 2047, 4095] mixed hp_247 13 (by kernel_rfl) (fun w_251 hp_252 => ?_)
      refine w_takes (f := 4) tb [0, 1, 2, 3] (Wp.of hp_252 [0, 1, 2, 3] rfl) [] [] [⟨1, 864, _, _, [1], fun w h => cells_box (sz := 10) (h.get (i := 1) (j := 0) rfl rfl) (segs 0 864 10 rfl (segs 64 800 10 (arr_len q_237 rfl) (segs 0 800 10 rfl (segs 800 0 10 (arr_len q_238 rfl) rfl))))⟩] [(12, 1, 0)] [] [0, 1, 2, 3, 5, 6, 7, 4, 8] 511 [(136, .pointer (some ⟨b_44, 0, none⟩)), (140, .slice A_98 r_220.2.fenced.length c_99), (144, .slice A_95 r_220.2.ctrl.length c_96)] (fun _ => (po_then (po_x (po_x (po_x po_body))))) rfl rfl (by kernel_rfl) fun σ => ?_
      refine w_one (m' := 1023) 9 rfl (by kernel_rfl) (by kernel_rfl) ?_
      obtain ⟨r_255, hx_254, H⟩ := bindSome H
      refine s_call (.cons (tm rfl rfl) (.cons (tm rfl rfl) .nil)) Try.call25 (selvageref16_join.calls r_220.2.fenced A_98 c_99 r_220.2.ctrl A_95 c_96 r_255 _ _ (Hp.offCov hp_252 [] [[(b_7, .cells #[.slice none 0 0, .int .i64 0] 28 (0, 0))], [(b_44, .cells (([] : List Value) ++ (cs_225 ++ (([] : List Value) ++ (cs_227 ++ ([.int .i64 r_220.2.cmp.N, .slice A_92 r_220.2.cmp.Hang.length c_93, .slice A_95 r_220.2.ctrl.length c_96, .slice A_98 r_220.2.fenced.length c_99, .int .i64 r_220.2.hold, .int .i64 r_220.2.held, .slice A_232 r_220.2.events.length c_233, .slice A_105 r_220.2.answers.length c_106, .int .i64 r_220.2.locs, .int .i64 r_220.2.base] : List Value))))).toArray 71 (0, 0))], X_235, [(b_119, .cells #[.int .i64 ((gi a0 x_78.2.1).Op), .int .i64 ((gi a0 x_78.2.1).T), .int .i64 ((gi a0 x_78.2.1).A), .int .i64 ((gi a0 x_78.2.1).B), .int .i64 ((gi a0 x_78.2.1).Imm)] 44 (0, 0))]] rfl) (RdS.pass q_241 hp_252) (RdS.pass q_240 hp_252) hx_254) rfl ?_
      rintro v_ w_256 ⟨A_260, c_261, X_263, rfl, q_262, af_259⟩
      have hp_257 := Hp.callA af_259 hp_252
      refine k_nil ?_
      refine ⟨(Wp.of hp_257 [1, 2, 3, 4] rfl), ?_⟩
      refine w_takes (f := 1) tb [0, 1, 2, 3] (Wp.of hp_257 [1, 2, 3, 4] rfl) [] [] [] [(136, 1, 0)] [] [10, 11] 4095 [(147, .pointer (some ⟨b_44, 867, none⟩))] (fun _ => (po_then (po_x (po_x (po_x po_body))))) rfl rfl (by kernel_rfl) fun σ => ?_
      refine w_one (m' := 8191) 12 rfl (by kernel_rfl) (by kernel_rfl) ?_
      refine s_store (i := 2) (j := 0) (vs := [.slice A_260 r_255.length c_261]) (l' := (([] : List Value) ++ (cs_225 ++ (([] : List Value) ++ (cs_227 ++ ([.int .i64 r_220.2.cmp.N, .slice A_92 r_220.2.cmp.Hang.length c_93, .slice A_95 r_220.2.ctrl.length c_96, .slice A_260 r_255.length c_261, .int .i64 r_220.2.hold, .int .i64 r_220.2.held, .slice A_232 r_220.2.events.length c_233, .slice A_105 r_220.2.answers.length c_106, .int .i64 r_220.2.locs, .int .i64 r_220.2.base] : List Value)))))) hp_257 (tm rfl rfl) (tm rfl rfl) rfl Try.sizeOf65 rfl rfl rfl rfl (ble_len (lenA rfl (lenA (arr_len q_237 rfl) (lenA rfl (lenA (arr_len q_238 rfl) rfl)))) rfl) (segu 0 867 rfl (segu 64 803 (arr_len q_237 rfl) (segu 0 803 rfl (segu 800 3 (arr_len q_238 rfl) rfl)))) (fun w_264 hp_265 => ?_)
      refine k_nil ?_
      refine ⟨(Wp.of hp_265 [1, 3, 4] rfl), ?_⟩
      refine w_done (by kernel_rfl) ?_
      have hp_266 := Hp.pick (R' := [X_263, [(b_7, .cells #[.slice none 0 0, .int .i64 0] 28 (0, 0))], [(b_44, .cells (([] : List Value) ++ (cs_225 ++ (([] : List Value) ++ (cs_227 ++ ([.int .i64 r_220.2.cmp.N, .slice A_92 r_220.2.cmp.Hang.length c_93, .slice A_95 r_220.2.ctrl.length c_96, .slice A_260 r_255.length c_261, .int .i64 r_220.2.hold, .int .i64 r_220.2.held, .slice A_232 r_220.2.events.length c_233, .slice A_105 r_220.2.answers.length c_106, .int .i64 r_220.2.locs, .int .i64 r_220.2.base] : List Value))))).toArray 71 (0, 0))], X_235, [(b_119, .cells #[.int .i64 ((gi a0 x_78.2.1).Op), .int .i64 ((gi a0 x_78.2.1).T), .int .i64 ((gi a0 x_78.2.1).A), .int .i64 ((gi a0 x_78.2.1).B), .int .i64 ((gi a0 x_78.2.1).Imm)] 44 (0, 0))]]) [0, 1, 2, 3, 4] hp_265 (by decide) rfl
      have q_270 := (Own.any q_262).froze hp_266
      have ep_269 := ep_86.freeze hp_266
      have u_268 := hp_266.frozenUp
      have hp_267 := hp_266.freeze
      have q_272 := q_108.up u_268
      have q_273 := q_241.up u_268
      have q_274 := q_240.up u_268
      have q_275 := q_237.up u_268
      have q_276 := q_238.up u_268
      have q_277 := q_239.up u_268
      have q_278 := q_242.up u_268
      obtain rfl := Option.some.inj H
      exact ⟨_, (fun k => I_84 k ∨ On [X_263] k), w_264, cs_225, cs_227, A_92, c_93, A_95, c_96, A_260, c_261, A_232, c_233, X_235, A_105, c_106, seenF ⟨rfl, rfl, rfl, rfl, rfl, rfl, trivial⟩, ep_269, hp_267.pick [0, 1, 2] (by decide) rfl, q_275, q_276, q_277, q_274, q_270, q_234, q_278, q_272⟩
     have H := iff_ h_250 H
     refine k_skip ?_
     obtain rfl := Option.some.inj H
     exact ⟨_, I_84, w_85, cs_225, cs_227, A_92, c_93, A_95, c_96, A_98, c_99, A_232, c_233, X_235, A_105, c_106, seenF ⟨rfl, rfl, rfl, rfl, rfl, rfl, trivial⟩, ep_86, hp_247.pick [0, 1, 2] (by decide) rfl, q_237, q_238, q_239, q_240, q_241, q_234, q_242, q_108⟩
    have H := iff_ h_217 H
    refine kq tb hp_214 [] [(148, .bool (decide (((gi a0 x_78.2.1).Op) = 23)))] (by kernel_rfl) fun σ => ?_
    refine k_if (tm rfl rfl) (fun h_280 => ?_) (fun h_280 => ?_)
    ·as_aux_lemma =>
     have H := ift h_280 H
     obtain ⟨cs_285, rp_284, q_286⟩ := arr_elem q_89 (show 0 ≤ (0 : Int) ∧ (0 : Int) < (32 : Int) by decide)
     obtain ⟨A_281, c_282, rfl, q_283⟩ := rp_284
     refine kqx tb hp_214 [⟨_, _, (arr_at (pre := ([] : List Value)) (post := ([] : List Value) ++ (cs_90 ++ ([.int .i64 x_78.1.cmp.N, .slice A_92 x_78.1.cmp.Hang.length c_93, .slice A_95 x_78.1.ctrl.length c_96, .slice A_98 x_78.1.fenced.length c_99, .int .i64 x_78.1.hold, .int .i64 x_78.1.held, .slice A_101 x_78.1.events.length c_102, .slice A_105 x_78.1.answers.length c_106, .int .i64 x_78.1.locs, .int .i64 x_78.1.base] : List Value))) (hp_214.get (i := 1) (j := 0) rfl rfl) rfl rfl q_286)⟩] [.a 153 4 b_44 0 _ _ (show 0 ≤ (0 : Int) ∧ (0 : Int) < (32 : Int) by decide)] [] [(12, 1, 0)] [] [(155, .int .i64 ((vg x_78.1.regs 0).N))] (by kernel_rfl) fun σ => ?_
     refine k_block ?_
     refine kq tb hp_214 [] [(156, .bool (decide (((vg x_78.1.regs 0).N) = 0)))] (by kernel_rfl) fun σ => ?_
     refine k_if (tm rfl rfl) (fun h_287 => ?_) (fun h_287 => ?_)
     ·have H := ift h_287 H
      refine kr tb hp_214 [] [(16, .int .i64 1)] (by kernel_rfl) fun σ => ?_
      obtain rfl := Option.some.inj H
      exact ⟨_, I_84, w_85, cs_88, cs_90, A_92, c_93, A_95, c_96, A_98, c_99, A_101, c_102, X_104, A_105, c_106, seenF ⟨rfl, rfl, rfl, rfl, rfl, rfl, trivial⟩, ep_86, hp_214.pick [0, 1, 2] (by decide) rfl, q_89, q_91, q_94, q_97, q_100, q_103, q_107, q_108⟩
     have H := iff_ h_287 H
     refine kq tb hp_214 [] [(158, .bool (decide (((vg x_78.1.regs 0).N) = 1)))] (by kernel_rfl) fun σ => ?_
     refine k_if (tm rfl rfl) (fun h_288 => ?_) (fun h_288 => ?_)
     ·as_aux_lemma =>
      have H := ift h_288 H
      refine k_seq ?_
      refine k_region ?_
      obtain ⟨cs_293, rp_292, q_294⟩ := arr_elem q_89 (show 0 ≤ (3 : Int) ∧ (3 : Int) < (32 : Int) by decide)
      obtain ⟨A_289, c_290, rfl, q_291⟩ := rp_292
      refine srx tb hp_214 [⟨_, _, (arr_at (pre := ([] : List Value)) (post := ([] : List Value) ++ (cs_90 ++ ([.int .i64 x_78.1.cmp.N, .slice A_92 x_78.1.cmp.Hang.length c_93, .slice A_95 x_78.1.ctrl.length c_96, .slice A_98 x_78.1.fenced.length c_99, .int .i64 x_78.1.hold, .int .i64 x_78.1.held, .slice A_101 x_78.1.events.length c_102, .slice A_105 x_78.1.answers.length c_106, .int .i64 x_78.1.locs, .int .i64 x_78.1.base] : List Value))) (hp_214.get (i := 1) (j := 0) rfl rfl) rfl rfl q_294)⟩] [.a 164 4 b_44 0 _ _ (show 0 ≤ (3 : Int) ∧ (3 : Int) < (32 : Int) by decide)] [] [(12, 1, 0)] [] 8 [(160, .pointer (some ⟨b_44, 0, none⟩)), (167, .agg #[.int .i64 6, .int .i64 0, .int .i64 ((vg x_78.1.regs 3).N), .int .i64 0, .int .u64 0, .int .u64 0, .int .u64 0, .int .u64 0])] (by kernel_rfl) fun σ => ?_
      have hp_295 := Hp.pick (R' := [[(b_44, .cells (([] : List Value) ++ (cs_88 ++ (([] : List Value) ++ (cs_90 ++ ([.int .i64 x_78.1.cmp.N, .slice A_92 x_78.1.cmp.Hang.length c_93, .slice A_95 x_78.1.ctrl.length c_96, .slice A_98 x_78.1.fenced.length c_99, .int .i64 x_78.1.hold, .int .i64 x_78.1.held, .slice A_101 x_78.1.events.length c_102, .slice A_105 x_78.1.answers.length c_106, .int .i64 x_78.1.locs, .int .i64 x_78.1.base] : List Value))))).toArray 71 (0, 0))], X_104, [(b_7, .cells #[.slice none 0 0, .int .i64 0] 28 (0, 0))], [(b_119, .cells #[.int .i64 ((gi a0 x_78.2.1).Op), .int .i64 ((gi a0 x_78.2.1).T), .int .i64 ((gi a0 x_78.2.1).A), .int .i64 ((gi a0 x_78.2.1).B), .int .i64 ((gi a0 x_78.2.1).Imm)] 44 (0, 0))]]) [1, 2, 0, 3] hp_214 (by decide) rfl
      obtain ⟨r_297, hx_296, H⟩ := bindSome H
      refine s_call (.cons (tm rfl rfl) (.cons (tm rfl rfl) .nil)) Try.call24 (selvageref16_state_event.calls x_78.1 b_44 cs_88 cs_90 A_92 c_93 A_95 c_96 A_98 c_99 A_101 c_102 X_104 A_105 c_106 (⟨6, 0, (vg x_78.1.regs 3).N, 0, 0, 0, 0, 0⟩ : api_Event) r_297 _ _ (Hp.offI hp_295 [[(b_44, .cells (([] : List Value) ++ (cs_88 ++ (([] : List Value) ++ (cs_90 ++ ([.int .i64 x_78.1.cmp.N, .slice A_92 x_78.1.cmp.Hang.length c_93, .slice A_95 x_78.1.ctrl.length c_96, .slice A_98 x_78.1.fenced.length c_99, .int .i64 x_78.1.hold, .int .i64 x_78.1.held, .slice A_101 x_78.1.events.length c_102, .slice A_105 x_78.1.answers.length c_106, .int .i64 x_78.1.locs, .int .i64 x_78.1.base] : List Value))))).toArray 71 (0, 0))], X_104] _ rfl) (Hp.have1 hp_295 [[(b_44, .cells (([] : List Value) ++ (cs_88 ++ (([] : List Value) ++ (cs_90 ++ ([.int .i64 x_78.1.cmp.N, .slice A_92 x_78.1.cmp.Hang.length c_93, .slice A_95 x_78.1.ctrl.length c_96, .slice A_98 x_78.1.fenced.length c_99, .int .i64 x_78.1.hold, .int .i64 x_78.1.held, .slice A_101 x_78.1.events.length c_102, .slice A_105 x_78.1.answers.length c_106, .int .i64 x_78.1.locs, .int .i64 x_78.1.base] : List Value))))).toArray 71 (0, 0))], X_104] _ rfl) (Reps.up q_89 (Hp.up hp_295)) (Reps.up q_91 (Hp.up hp_295)) (RdS.now q_94 hp_295) (RdS.now q_97 hp_295) (RdS.now q_100 hp_295) q_103 (RdS.now q_107 hp_295) hx_296) rfl ?_
      rintro v_ w_298 ⟨cs_302, cs_304, A_309, c_310, X_312, rfl, q_303, q_305, q_306, q_307, q_308, q_311, q_313, af_301⟩
      have hp_299 := Hp.callA af_301 hp_295
      have q_314 := q_303.up (Hp.down hp_295)
      have q_315 := q_305.up (Hp.down hp_295)
      have q_316 := q_306.up (Hp.down hp_295)
      have q_317 := q_307.up (Hp.down hp_295)
      have q_318 := q_308.up (Hp.down hp_295)
      have q_319 := q_313.up (Hp.down hp_295)
      refine sv (v := .bool (!r_297.1)) rfl rfl rfl (e_un (tm rfl rfl) (r_not rfl)) ?_
      refine k_nil ?_
      refine k_if (tm rfl rfl) (fun h_320 => ?_) (fun h_320 => ?_)
      ·have H := ift h_320 H
       refine kr tb hp_299 [] [(16, .int .i64 5)] (by kernel_rfl) fun σ => ?_
       obtain rfl := Option.some.inj H
       exact ⟨_, I_84, w_85, cs_302, cs_304, A_92, c_93, A_95, c_96, A_98, c_99, A_309, c_310, X_312, A_105, c_106, seenF ⟨rfl, rfl, rfl, rfl, rfl, rfl, trivial⟩, ep_86, hp_299.pick [2, 0, 1] (by decide) rfl, q_314, q_315, q_316, q_317, q_318, q_311, q_319, q_108⟩
      have H := iff_ h_320 H
      refine k_skip ?_
      obtain rfl := Option.some.inj H
      exact ⟨_, I_84, w_85, cs_302, cs_304, A_92, c_93, A_95, c_96, A_98, c_99, A_309, c_310, X_312, A_105, c_106, seenF ⟨rfl, rfl, rfl, rfl, rfl, rfl, trivial⟩, ep_86, hp_299.pick [2, 0, 1] (by decide) rfl, q_314, q_315, q_316, q_317, q_318, q_311, q_319, q_108⟩
     have H := iff_ h_288 H
     refine kq tb hp_214 [] [(170, .bool (decide (((vg x_78.1.regs 0).N) = 2)))] (by kernel_rfl) fun σ => ?_
     refine k_if (tm rfl rfl) (fun h_321 => ?_) (fun h_321 => ?_)
     ·have H := ift h_321 H
      refine kr tb hp_214 [] [(16, .int .i64 2)] (by kernel_rfl) fun σ => ?_
      obtain rfl := Option.some.inj H
      exact ⟨_, I_84, w_85, cs_88, cs_90, A_92, c_93, A_95, c_96, A_98, c_99, A_101, c_102, X_104, A_105, c_106, seenF ⟨rfl, rfl, rfl, rfl, rfl, rfl, trivial⟩, ep_86, hp_214.pick [0, 1, 2] (by decide) rfl, q_89, q_91, q_94, q_97, q_100, q_103, q_107, q_108⟩
     have H := iff_ h_321 H
     refine kq tb hp_214 [] [(172, .bool (decide (((vg x_78.1.regs 0).N) = 3)))] (by kernel_rfl) fun σ => ?_
     refine k_if (tm rfl rfl) (fun h_322 => ?_) (fun h_322 => ?_)
     ·have H := ift h_322 H
      refine kr tb hp_214 [] [(16, .int .i64 3)] (by kernel_rfl) fun σ => ?_
      obtain rfl := Option.some.inj H
      exact ⟨_, I_84, w_85, cs_88, cs_90, A_92, c_93, A_95, c_96, A_98, c_99, A_101, c_102, X_104, A_105, c_106, seenF ⟨rfl, rfl, rfl, rfl, rfl, rfl, trivial⟩, ep_86, hp_214.pick [0, 1, 2] (by decide) rfl, q_89, q_91, q_94, q_97, q_100, q_103, q_107, q_108⟩
     have H := iff_ h_322 H
     refine kr tb hp_214 [] [(16, .int .i64 6)] (by kernel_rfl) fun σ => ?_
     obtain rfl := Option.some.inj H
     exact ⟨_, I_84, w_85, cs_88, cs_90, A_92, c_93, A_95, c_96, A_98, c_99, A_101, c_102, X_104, A_105, c_106, seenF ⟨rfl, rfl, rfl, rfl, rfl, rfl, trivial⟩, ep_86, hp_214.pick [0, 1, 2] (by decide) rfl, q_89, q_91, q_94, q_97, q_100, q_103, q_107, q_108⟩
    have H := iff_ h_280 H
    refine k_region ?_
    refine sr tb hp_214 [(12, 1, 0), (15, 3, 0)] 2 [(96, .pointer (some ⟨b_44, 0, none⟩)), (97, .agg #[.int .i64 ((gi a0 x_78.2.1).Op), .int .i64 ((gi a0 x_78.2.1).T), .int .i64 ((gi a0 x_78.2.1).A), .int .i64 ((gi a0 x_78.2.1).B), .int .i64 ((gi a0 x_78.2.1).Imm)])] (by kernel_rfl) fun σ => ?_
    have hp_323 := Hp.pick (R' := [[(b_44, .cells (([] : List Value) ++ (cs_88 ++ (([] : List Value) ++ (cs_90 ++ ([.int .i64 x_78.1.cmp.N, .slice A_92 x_78.1.cmp.Hang.length c_93, .slice A_95 x_78.1.ctrl.length c_96, .slice A_98 x_78.1.fenced.length c_99, .int .i64 x_78.1.hold, .int .i64 x_78.1.held, .slice A_101 x_78.1.events.length c_102, .slice A_105 x_78.1.answers.length c_106, .int .i64 x_78.1.locs, .int .i64 x_78.1.base] : List Value))))).toArray 71 (0, 0))], X_104, [(b_7, .cells #[.slice none 0 0, .int .i64 0] 28 (0, 0))], [(b_119, .cells #[.int .i64 ((gi a0 x_78.2.1).Op), .int .i64 ((gi a0 x_78.2.1).T), .int .i64 ((gi a0 x_78.2.1).A), .int .i64 ((gi a0 x_78.2.1).B), .int .i64 ((gi a0 x_78.2.1).Imm)] 44 (0, 0))]]) [1, 2, 0, 3] hp_214 (by decide) rfl
    obtain ⟨r_325, hx_324, H⟩ := bindSome H
    refine s_call (.cons (tm rfl rfl) (.cons (tm rfl rfl) .nil)) Try.call26 (selvageref16_state_reckon.calls x_78.1 b_44 cs_88 cs_90 A_92 c_93 A_95 c_96 A_98 c_99 A_101 c_102 X_104 A_105 c_106 (⟨(gi a0 x_78.2.1).Op, (gi a0 x_78.2.1).T, (gi a0 x_78.2.1).A, (gi a0 x_78.2.1).B, (gi a0 x_78.2.1).Imm⟩ : api_Inst) r_325 _ _ (Hp.offI hp_323 [[(b_44, .cells (([] : List Value) ++ (cs_88 ++ (([] : List Value) ++ (cs_90 ++ ([.int .i64 x_78.1.cmp.N, .slice A_92 x_78.1.cmp.Hang.length c_93, .slice A_95 x_78.1.ctrl.length c_96, .slice A_98 x_78.1.fenced.length c_99, .int .i64 x_78.1.hold, .int .i64 x_78.1.held, .slice A_101 x_78.1.events.length c_102, .slice A_105 x_78.1.answers.length c_106, .int .i64 x_78.1.locs, .int .i64 x_78.1.base] : List Value))))).toArray 71 (0, 0))], X_104] _ rfl) (Hp.have1 hp_323 [[(b_44, .cells (([] : List Value) ++ (cs_88 ++ (([] : List Value) ++ (cs_90 ++ ([.int .i64 x_78.1.cmp.N, .slice A_92 x_78.1.cmp.Hang.length c_93, .slice A_95 x_78.1.ctrl.length c_96, .slice A_98 x_78.1.fenced.length c_99, .int .i64 x_78.1.hold, .int .i64 x_78.1.held, .slice A_101 x_78.1.events.length c_102, .slice A_105 x_78.1.answers.length c_106, .int .i64 x_78.1.locs, .int .i64 x_78.1.base] : List Value))))).toArray 71 (0, 0))], X_104] _ rfl) (Reps.up q_89 (Hp.up hp_323)) (Reps.up q_91 (Hp.up hp_323)) (RdS.now q_94 hp_323) (RdS.now q_97 hp_323) (RdS.now q_100 hp_323) q_103 (RdS.now q_107 hp_323) hx_324) rfl ?_
    rintro v_ w_326 ⟨I_328, cs_331, cs_333, A_335, c_336, X_341, rfl, q_332, q_334, q_337, q_338, q_339, q_340, q_342, z_329, af_330⟩
    have hp_327 := Hp.callZA af_330 z_329 hp_323
    have ep_343 := Ep.callA z_329 ep_86 hp_323
    have u_344 := Hp.upZ hp_323 z_329
    have q_345 := q_108.up u_344
    have q_346 := q_89.up u_344
    have q_347 := q_91.up u_344
    have q_348 := q_94.up u_344
    have q_349 := q_97.up u_344
    have q_350 := q_100.up u_344
    have q_351 := q_107.up u_344
    refine k_nil ?_
    obtain rfl := Option.some.inj H
    exact ⟨_, I_328, w_326, cs_331, cs_333, A_335, c_336, A_95, c_96, A_98, c_99, A_101, c_102, X_341, A_105, c_106, seenF ⟨rfl, rfl, rfl, rfl, rfl, rfl, trivial⟩, ep_343, hp_327.pick [2, 0, 1] (by decide) rfl, q_332, q_334, q_337, q_338, q_339, q_340, q_342, q_345⟩
   clear H
   rintro a w' ⟨σ_355, I_358, w_359, cs_362, cs_364, A_366, c_367, A_369, c_370, A_372, c_373, A_375, c_376, X_378, A_379, c_380, rfl, ep_360, hp_356, q_363, q_365, q_368, q_371, q_374, q_377, q_381, q_382⟩
   have H := G_125
   refine kq tb hp_356 [] [(175, .bool (!decide (o_124.2.2 = 0)))] (by kernel_rfl) fun σ => ?_
   refine k_if (tm rfl rfl) (fun h_383 => ?_) (fun h_383 => ?_)
   ·have H := ift h_383 H
    refine k_seq ?_
    refine k_region ?_
    refine srx tb hp_356 [] [] [⟨1, 864, _, _, cells_box (sz := 10) (hp_356.get (i := 1) (j := 0) rfl rfl) (segs 0 864 10 rfl (segs 64 800 10 (arr_len q_363 rfl) (segs 0 800 10 rfl (segs 800 0 10 (arr_len q_365 rfl) rfl))))⟩] [(12, 1, 0)] [] 6 [(181, .agg #[.slice A_375 o_124.1.events.length c_376, .int .i64 o_124.2.2])] (by kernel_rfl) fun σ => ?_
    refine s_store (i := 0) (j := 0) (vs := [.slice A_375 o_124.1.events.length c_376, .int .i64 o_124.2.2]) (l' := [.slice A_375 o_124.1.events.length c_376, .int .i64 o_124.2.2]) hp_356 (tm rfl rfl) (tm rfl rfl) rfl Try.sizeOf28 rfl rfl rfl rfl rfl rfl (fun w_384 hp_385 => ?_)
    refine k_nil ?_
    refine k_ret ?_
    refine q_ret ?_
    refine q_ret ?_
    obtain ⟨v_, H', hv_⟩ := mapSome H
    have hv_ := hz_79 _ hv_
    subst hv_
    have H := H'
    clear H'
    obtain ⟨v_, H', hv_⟩ := mapSome H
    subst hv_
    have H := H'.trans (show some v_ = _ from G_76)
    obtain rfl := Option.some.inj H
    exact k_end rfl (.cell rfl rfl (r_loadA Try.isAgg28 Try.sizeOf28 rfl (cells_box (sz := 2) (hp_385.get (i := 0) (j := 0) rfl rfl) rfl)) .nil) rfl ⟨_, A_375, c_376, X_378, rfl, q_377, (Ep.frz ep_360 (hp_385.pick [2] (by decide) rfl)), (hp_385.pick [2] (by decide) rfl).aft⟩
   have H := iff_ h_383 H
   refine k_skip ?_
   refine kr tb hp_356 [] [(14, .int .i64 (wrap64 (x_78.2.2 + 1)))] (by kernel_rfl) fun σ => ?_
   obtain rfl := Option.some.inj H
   exact ⟨_, rfl, ⟨_, I_358, w_359, cs_362, cs_364, A_366, c_367, A_369, c_370, A_372, c_373, A_375, c_376, X_378, A_379, c_380, seenF ⟨rfl, rfl, rfl, rfl, rfl, trivial⟩, ep_360, hp_356, q_363, q_365, q_368, q_371, q_374, q_377, q_381, q_382⟩⟩
  have H := iff_ h_109 H
  refine k_exit ?_
  refine q_here ?_
  obtain ⟨v_, H', hv_⟩ := mapSome H
  have hv_ := hz_79 _ hv_
  subst hv_
  have H := H'
  clear H'
  obtain rfl := Option.some.inj H
  exact ⟨(x_78.1, x_78.2.1), _, I_84, w_85, cs_88, cs_90, A_92, c_93, A_95, c_96, A_98, c_99, A_101, c_102, X_104, A_105, c_106, rfl, seenF ⟨rfl, rfl, rfl, rfl, trivial⟩, ep_86, hp_82, q_89, q_91, q_94, q_97, q_100, q_103, q_107, q_108⟩
 clear H
 rintro a w' ⟨s_77, σ_387, I_390, w_391, cs_394, cs_396, A_398, c_399, A_401, c_402, A_404, c_405, A_407, c_408, X_410, A_411, c_412, rfl, rfl, ep_392, hp_388, q_395, q_397, q_400, q_403, q_406, q_409, q_413, q_414⟩
 have H := G_76
 refine k_seq ?_
 refine kq tb hp_388 [] [(189, .bool ((decide (s_77.2 < 0)) || (decide (s_77.2 ≥ (a0.length : Int)))))] (by kernel_rfl) fun σ => ?_
 refine k_if (tm rfl rfl) (fun h_415 => ?_) (fun h_415 => ?_)
 ·have H := ift h_415 H
  refine k_seq ?_
  refine k_region ?_
  refine srx tb hp_388 [] [] [⟨1, 864, _, _, cells_box (sz := 10) (hp_388.get (i := 1) (j := 0) rfl rfl) (segs 0 864 10 rfl (segs 64 800 10 (arr_len q_395 rfl) (segs 0 800 10 rfl (segs 800 0 10 (arr_len q_397 rfl) rfl))))⟩] [(12, 1, 0)] [] 5 [(194, .agg #[.slice A_407 s_77.1.events.length c_408, .int .i64 6])] (by kernel_rfl) fun σ => ?_
  refine s_store (i := 0) (j := 0) (vs := [.slice A_407 s_77.1.events.length c_408, .int .i64 6]) (l' := [.slice A_407 s_77.1.events.length c_408, .int .i64 6]) hp_388 (tm rfl rfl) (tm rfl rfl) rfl Try.sizeOf28 rfl rfl rfl rfl rfl rfl (fun w_416 hp_417 => ?_)
  refine k_nil ?_
  refine k_ret ?_
  obtain rfl := Option.some.inj H
  exact k_end rfl (.cell rfl rfl (r_loadA Try.isAgg28 Try.sizeOf28 rfl (cells_box (sz := 2) (hp_417.get (i := 0) (j := 0) rfl rfl) rfl)) .nil) rfl ⟨_, A_407, c_408, X_410, rfl, q_409, (Ep.frz ep_392 (hp_417.pick [2] (by decide) rfl)), (hp_417.pick [2] (by decide) rfl).aft⟩
 have H := iff_ h_415 H
 refine k_skip ?_
 refine k_seq ?_
 refine k_region ?_
 refine srx tb hp_388 [] [] [⟨1, 864, _, _, cells_box (sz := 10) (hp_388.get (i := 1) (j := 0) rfl rfl) (segs 0 864 10 rfl (segs 64 800 10 (arr_len q_395 rfl) (segs 0 800 10 rfl (segs 800 0 10 (arr_len q_397 rfl) rfl))))⟩] [(12, 1, 0)] [] 5 [(199, .agg #[.slice A_407 s_77.1.events.length c_408, .int .i64 5])] (by kernel_rfl) fun σ => ?_
 refine s_store (i := 0) (j := 0) (vs := [.slice A_407 s_77.1.events.length c_408, .int .i64 5]) (l' := [.slice A_407 s_77.1.events.length c_408, .int .i64 5]) hp_388 (tm rfl rfl) (tm rfl rfl) rfl Try.sizeOf28 rfl rfl rfl rfl rfl rfl (fun w_418 hp_419 => ?_)
 refine k_nil ?_
 refine k_ret ?_
 obtain rfl := Option.some.inj H
 exact k_end rfl (.cell rfl rfl (r_loadA Try.isAgg28 Try.sizeOf28 rfl (cells_box (sz := 2) (hp_419.get (i := 0) (j := 0) rfl rfl) rfl)) .nil) rfl ⟨_, A_407, c_408, X_410, rfl, q_409, (Ep.frz ep_392 (hp_419.pick [2] (by decide) rfl)), (hp_419.pick [2] (by decide) rfl).aft⟩

end Go.Proofs.Ytcnchjlomcafeaa.W

/- Functions of the program as plain Lean functions, and that the calls do what they say: written by w3.py. -/
import Derived.Test.YtcnchjlomcafeaaRun
import Derived.Test.YtcnchjlomcafeaaTy
import Derived.Test.YtcnchjlomcafeaaF50
import Derived.Test.YtcnchjlomcafeaaG2
import Derived.Test.YtcnchjlomcafeaaF52
import Derived.Test.YtcnchjlomcafeaaF46
set_option linter.unusedVariables false
set_option linter.unusedSimpArgs false
set_option linter.unusedSectionVars false
namespace Go.Proofs.Ytcnchjlomcafeaa.W
open Go Go.RowKit Go.Proofs.Ytcnchjlomcafeaa.B
attribute [local irreducible] Go.wpList Go.Code.wp Go.Region.wanted Go.yielded
/-! ### selvage/selvagelaw16.decode: function 16 -/
def selvagelaw16_decode.m (a0 : Int) : Option (api_Inst × Bool) :=
 (selvageref15_Decode.m a0).bind fun r_6 => (some (r_6.1, decide (r_6.2 = 0)))
set_option maxHeartbeats 4000000 in
set_option maxRecDepth 100000 in
theorem selvagelaw16_decode.calls (a0 : Int) (r : api_Inst × Bool) (w : World) (H : selvagelaw16_decode.m a0 = some r) :
 Ret Try.prog 16 [.int .u32 a0] w fun v w' => v = .tuple #[.agg #[.int .i64 r.1.Op, .int .i64 r.1.T, .int .i64 r.1.A, .int .i64 r.1.B, .int .i64 r.1.Imm], .bool r.2] ∧ Aft w w' [] [] := by
 unfold selvagelaw16_decode.m at H
 have hp0 := Hp.startR (F := no) (R := []) (Have.nil w) (fun _ h => h.elim)
 have ep0 := Ep.refl no [] w
 refine enter (L := [(0, .int .u32 a0)]) Try.func16 rfl Try.ntmps16 rfl rfl ?_
 refine k_seq ?_
 refine k_region ?_
 refine s_alloc (zv := .agg #[.int .i64 0, .int .i64 0, .int .i64 0, .int .i64 0, .int .i64 0]) (l := [.int .i64 0, .int .i64 0, .int .i64 0, .int .i64 0, .int .i64 0]) hp0 (by intro w_; kernel_rfl) rfl rfl (fun b_1 w_2 hp_3 => ?_)
 refine sv (v := .bool false) rfl rfl rfl (e_assign rfl) ?_
 refine k_nil ?_
 refine k_seq ?_
 refine k_region ?_
 refine sv (v := .int .u32 a0) rfl rfl rfl (e_move (tm rfl rfl)) ?_
 obtain ⟨r_6, hx_5, H⟩ := bindSome H
 refine s_call (.cons (tm rfl rfl) .nil) Try.call29 (selvageref15_Decode.calls a0 r_6 _ hx_5) rfl ?_
 rintro v_ w_7 ⟨rfl, af_10⟩
 have hp_8 := Hp.callA af_10 hp_3
 refine sv (v := .tuple #[.agg #[.int .i64 r_6.1.Op, .int .i64 r_6.1.T, .int .i64 r_6.1.A, .int .i64 r_6.1.B, .int .i64 r_6.1.Imm], .int .i64 r_6.2]) rfl rfl rfl (e_move (tm rfl rfl)) ?_
 refine sr tb hp_8 [] 2 [(9, .agg #[.int .i64 r_6.1.Op, .int .i64 r_6.1.T, .int .i64 r_6.1.A, .int .i64 r_6.1.B, .int .i64 r_6.1.Imm]), (10, .int .i64 r_6.2)] (by kernel_rfl) fun σ => ?_
 refine s_alloc (zv := .agg #[.int .i64 0, .int .i64 0, .int .i64 0, .int .i64 0, .int .i64 0]) (l := [.int .i64 0, .int .i64 0, .int .i64 0, .int .i64 0, .int .i64 0]) hp_8 (by intro w_; kernel_rfl) rfl rfl (fun b_11 w_12 hp_13 => ?_)
 refine s_store (i := 1) (j := 0) (vs := [.int .i64 r_6.1.Op, .int .i64 r_6.1.T, .int .i64 r_6.1.A, .int .i64 r_6.1.B, .int .i64 r_6.1.Imm]) (l' := [.int .i64 r_6.1.Op, .int .i64 r_6.1.T, .int .i64 r_6.1.A, .int .i64 r_6.1.B, .int .i64 r_6.1.Imm]) hp_13 (tm rfl rfl) (tm rfl rfl) rfl Try.sizeOf44 rfl rfl rfl rfl rfl rfl (fun w_14 hp_15 => ?_)
 refine sv (v := .int .i64 r_6.2) rfl rfl rfl (e_assign (tm rfl rfl)) ?_
 refine k_nil ?_
 refine k_seq ?_
 refine k_region ?_
 refine sr tb hp_15 [(4, 1, 0)] 3 [(11, .agg #[.int .i64 r_6.1.Op, .int .i64 r_6.1.T, .int .i64 r_6.1.A, .int .i64 r_6.1.B, .int .i64 r_6.1.Imm]), (13, .bool (decide (r_6.2 = 0)))] (by kernel_rfl) fun σ => ?_
 refine s_store (i := 0) (j := 0) (vs := [.int .i64 r_6.1.Op, .int .i64 r_6.1.T, .int .i64 r_6.1.A, .int .i64 r_6.1.B, .int .i64 r_6.1.Imm]) (l' := [.int .i64 r_6.1.Op, .int .i64 r_6.1.T, .int .i64 r_6.1.A, .int .i64 r_6.1.B, .int .i64 r_6.1.Imm]) hp_15 (tm rfl rfl) (tm rfl rfl) rfl Try.sizeOf44 rfl rfl rfl rfl rfl rfl (fun w_16 hp_17 => ?_)
 refine sv (v := .bool (decide (r_6.2 = 0))) rfl rfl rfl (e_assign (tm rfl rfl)) ?_
 refine k_nil ?_
 refine k_ret ?_
 obtain rfl := Option.some.inj H
 exact k_end rfl (.cell rfl rfl (r_loadA Try.isAgg44 Try.sizeOf44 rfl (cells_box (sz := 5) (hp_17.get (i := 0) (j := 0) rfl rfl) rfl)) (.tmp rfl rfl .nil)) rfl ⟨rfl, (hp_17.pick [] (by decide) rfl).aft⟩

/-! ### selvage/thread.Words: function 17 -/
def thread_Words.l0 (a0 : List Int) (x_13 : (List api_Inst) × Int) : Option (((List api_Inst) × Int) ⊕ (List api_Inst ⊕ api_Run)) :=
 if (decide (x_13.2 < (a0.length : Int))) = true then (if 0 ≤ x_13.2 ∧ x_13.2 < (a0.length : Int) then ((isa_Decode.m (gi a0 x_13.2)).bind fun r_33 => (if (!decide (r_33.2 = 0)) = true then (((some (⟨([] : List api_Event), 0⟩ : api_Run)).map Sum.inr).map Sum.inr) else (if (x_13.1.length + ([r_33.1] : List api_Inst).length) * 40 ≤ 140737488355328 then (some (Sum.inl ((x_13.1 ++ ([r_33.1] : List api_Inst)), wrap64 (x_13.2 + 1)))) else none))) else none) else ((some (Sum.inl x_13.1)).map Sum.inr)
def thread_Words.m (a0 : List Int) (a1 : Int) (a2 : Int) (a3 : List Int) : Option api_Run :=
 (loop (thread_Words.l0 a0) (([] : List api_Inst), 0) : Option (List api_Inst ⊕ api_Run)).bind fun o_10 => match o_10 with | .inl s_12 => ((thread_Do.m s_12 a1 a2 a3).bind fun r_69 => (some r_69)) | .inr r_80 => some r_80
set_option maxHeartbeats 4000000 in
set_option maxRecDepth 100000 in
theorem thread_Words.calls (a0 : List Int) (A_1 : Option Addr) (c_2 : Nat) (a1 : Int) (a2 : Int) (a3 : List Int) (A_4 : Option Addr) (c_5 : Nat) (r : api_Run) (w : World) (F : Nat → Prop) (hF : ∀ k, F k → Off w [] k) (q_3 : RdS (intE .u32) F w A_1 c_2 a0) (q_6 : RdS (intE .i64) F w A_4 c_5 a3) (H : thread_Words.m a0 a1 a2 a3 = some r) :
 Ret Try.prog 17 [.slice A_1 a0.length c_2, .int .i64 a1, .int .i64 a2, .slice A_4 a3.length c_5] w fun v w' => ∃ (A_1081 : Option Addr) (c_1082 : Nat) (X_1084 : Rsc), v = .agg #[.slice A_1081 r.Events.length c_1082, .int .i64 r.Status] ∧ Own api_Event_E no wz 33 A_1081 c_1082 r.Events X_1084 ∧ Aft w w' [] [X_1084] := by
 unfold thread_Words.m at H
 have hp0 := Hp.startR (R := []) (Have.nil w) hF
 have ep0 := Ep.refl F [] w
 refine enter (L := [(0, .slice A_1 a0.length c_2), (1, .int .i64 a1), (2, .int .i64 a2), (3, .slice A_4 a3.length c_5)]) Try.func17 rfl Try.ntmps17 rfl rfl ?_
 refine k_seq ?_
 refine k_region ?_
 refine s_alloc (zv := .agg #[.slice none 0 0, .int .i64 0]) (l := [.slice none 0 0, .int .i64 0]) hp0 (by intro w_; kernel_rfl) rfl rfl (fun b_7 w_8 hp_9 => ?_)
 refine k_nil ?_
 refine kq tb hp_9 [] [(9, .slice none 0 0)] (by kernel_rfl) fun σ => ?_
 refine k_seq ?_
 refine kq tb hp_9 [] [(14, .slice A_1 a0.length c_2), (15, .int .i64 (a0.length : Int)), (16, .int .i64 0)] (by kernel_rfl) fun σ => ?_
 obtain ⟨o_10, H, G_11⟩ := bindSome H
 refine k_cut (fun a w' => ∃ (s_12 : List api_Inst) (σ_81 : Nat → Value) (A_85 : Option Addr) (c_88 : Nat) (X_86 : Rsc), o_10 = Sum.inl s_12 ∧ a = st 38 [(1, .int .i64 a1), (2, .int .i64 a2), (3, .slice A_4 a3.length c_5), (8, .pointer (some ⟨b_7, 0, none⟩)), (9, .slice A_85 s_12.length c_88)] σ_81 [] ∧ Hp (On []) F w w w' [[(b_7, .cells #[.slice none 0 0, .int .i64 0] 28 (0, 0))], X_86] ∧ Own api_Inst_E no wz 44 A_85 c_88 s_12 X_86) ?_ ?_
 ·as_aux_lemma =>
  refine k_block ?_
  refine k_lp (fun (x_13 : (List api_Inst) × Int) a w' => ∃ (σ_59 : Nat → Value) (A_63 : Option Addr) (c_66 : Nat) (X_64 : Rsc), a = st 38 [(1, .int .i64 a1), (2, .int .i64 a2), (3, .slice A_4 a3.length c_5), (8, .pointer (some ⟨b_7, 0, none⟩)), (9, .slice A_63 x_13.1.length c_66), (14, .slice A_1 a0.length c_2), (15, .int .i64 (a0.length : Int)), (16, .int .i64 x_13.2)] σ_59 [] ∧ Hp (On []) F w w w' [[(b_7, .cells #[.slice none 0 0, .int .i64 0] 28 (0, 0))], X_64] ∧ Own api_Inst_E no wz 44 A_63 c_66 x_13.1 X_64) H ⟨_, none, 0, [], seenF ⟨rfl, rfl, rfl, rfl, rfl, rfl, rfl, rfl, trivial⟩, hp_9.pick [0, 1] (by decide) rfl, Own.nil _ _ _ _⟩ ?_
  clear H
  rintro x_13 a w' z_ ⟨σ_16, A_20, c_23, X_21, rfl, hp_17, O_22⟩ H hz_14
  unfold thread_Words.l0 at H
  refine kq tb hp_17 [] [(17, .bool (decide (x_13.2 < (a0.length : Int))))] (by kernel_rfl) fun σ => ?_
  refine k_seq ?_
  refine k_if (tm rfl rfl) (fun h_24 => ?_) (fun h_24 => ?_)
  ·as_aux_lemma =>
   have H := ift h_24 H
   refine k_skip ?_
   refine k_seq ?_
   refine k_block ?_
   obtain ⟨g_25, H⟩ := grd H
   obtain ⟨a_30, cs_27, pl_28, q_29, rp_26⟩ := rd_idx q_3 g_25
   obtain rfl : cs_27 = [.int .u32 (gi a0 x_13.2)] := rp_26
   refine kqx tb hp_17 [⟨_, _, (hp_17.ep q_29)⟩] [.s 18 2 _ _ c_2 _ 1 _ pl_28 g_25] [] [] [] [(11, .int .u32 (gi a0 x_13.2))] (by kernel_rfl) fun σ => ?_
   refine k_seq ?_
   refine k_region ?_
   refine sv (v := .int .u32 (gi a0 x_13.2)) rfl rfl rfl (e_move (tm rfl rfl)) ?_
   obtain ⟨r_33, hx_32, H⟩ := bindSome H
   refine s_call (.cons (tm rfl rfl) .nil) Try.call30 (isa_Decode.calls (gi a0 x_13.2) r_33 _ hx_32) rfl ?_
   rintro v_ w_34 ⟨rfl, af_37⟩
   have hp_35 := Hp.callA af_37 hp_17
   refine sv (v := .tuple #[.agg #[.int .i64 r_33.1.Op, .int .i64 r_33.1.T, .int .i64 r_33.1.A, .int .i64 r_33.1.B, .int .i64 r_33.1.Imm], .int .i64 r_33.2]) rfl rfl rfl (e_move (tm rfl rfl)) ?_
   refine sr tb hp_35 [] 2 [(23, .agg #[.int .i64 r_33.1.Op, .int .i64 r_33.1.T, .int .i64 r_33.1.A, .int .i64 r_33.1.B, .int .i64 r_33.1.Imm]), (24, .int .i64 r_33.2)] (by kernel_rfl) fun σ => ?_
   refine s_alloc (zv := .agg #[.int .i64 0, .int .i64 0, .int .i64 0, .int .i64 0, .int .i64 0]) (l := [.int .i64 0, .int .i64 0, .int .i64 0, .int .i64 0, .int .i64 0]) hp_35 (by intro w_; kernel_rfl) rfl rfl (fun b_38 w_39 hp_40 => ?_)
   refine s_store (i := 2) (j := 0) (vs := [.int .i64 r_33.1.Op, .int .i64 r_33.1.T, .int .i64 r_33.1.A, .int .i64 r_33.1.B, .int .i64 r_33.1.Imm]) (l' := [.int .i64 r_33.1.Op, .int .i64 r_33.1.T, .int .i64 r_33.1.A, .int .i64 r_33.1.B, .int .i64 r_33.1.Imm]) hp_40 (tm rfl rfl) (tm rfl rfl) rfl Try.sizeOf44 rfl rfl rfl rfl rfl rfl (fun w_41 hp_42 => ?_)
   refine sv (v := .int .i64 r_33.2) rfl rfl rfl (e_assign (tm rfl rfl)) ?_
   refine k_nil ?_
   refine k_seq ?_
   refine kq tb hp_42 [] [(26, .bool (!decide (r_33.2 = 0)))] (by kernel_rfl) fun σ => ?_
   refine k_if (tm rfl rfl) (fun h_43 => ?_) (fun h_43 => ?_)
   ·have H := ift h_43 H
    refine k_seq ?_
    refine k_region ?_
    refine sv (v := .agg #[.slice none 0 0, .int .i64 0]) rfl rfl rfl (e_build (vs := []) (cs := [.slice none 0 0, .int .i64 0]) .nil (by kernel_rfl)) ?_
    refine s_store (i := 0) (j := 0) (vs := [.slice none 0 0, .int .i64 0]) (l' := [.slice none 0 0, .int .i64 0]) hp_42 (tm rfl rfl) (tm rfl rfl) rfl Try.sizeOf28 rfl rfl rfl rfl rfl rfl (fun w_44 hp_45 => ?_)
    refine k_nil ?_
    refine k_ret ?_
    refine q_ret ?_
    refine q_ret ?_
    obtain ⟨v_, H', hv_⟩ := mapSome H
    have hv_ := hz_14 _ hv_
    subst hv_
    have H := H'
    clear H'
    obtain ⟨v_, H', hv_⟩ := mapSome H
    subst hv_
    have H := H'.trans (show some v_ = _ from G_11)
    obtain rfl := Option.some.inj H
    exact k_end rfl (.cell rfl rfl (r_loadA Try.isAgg28 Try.sizeOf28 rfl (cells_box (sz := 2) (hp_45.get (i := 0) (j := 0) rfl rfl) rfl)) .nil) rfl ⟨none, 0, [], rfl, Own.nil _ _ _ _, (hp_45.pick [3] (by decide) rfl).aft⟩
   have H := iff_ h_43 H
   refine k_skip ?_
   refine k_region ?_
   refine sr tb hp_42 [(12, 2, 0)] 2 [(28, .slice A_20 x_13.1.length c_23), (29, .agg #[.int .i64 r_33.1.Op, .int .i64 r_33.1.T, .int .i64 r_33.1.A, .int .i64 r_33.1.B, .int .i64 r_33.1.Imm])] (by kernel_rfl) fun σ => ?_
   refine s_buildC (zv := .agg #[.int .i64 0, .int .i64 0, .int .i64 0, .int .i64 0, .int .i64 0]) (E := api_Inst_E) (F := no) (wf := wz) (xs := ([r_33.1] : List api_Inst)) (cs := [.int .i64 r_33.1.Op, .int .i64 r_33.1.T, .int .i64 r_33.1.A, .int .i64 r_33.1.B, .int .i64 r_33.1.Imm]) (vs := [(0, .agg #[.int .i64 r_33.1.Op, .int .i64 r_33.1.T, .int .i64 r_33.1.A, .int .i64 r_33.1.B, .int .i64 r_33.1.Imm])]) hp_42 (.cons (tm rfl rfl) .nil) Try.runUnderlying22 Try.sizeOf44 (by intro w_; kernel_rfl) rfl rfl rfl (Reps.cat.2 rfl) rfl rfl rfl rfl (fun A_46 c_47 w_48 X_49 hp_50 O_51 => ?_)
   obtain ⟨g_52, H⟩ := grd H
   refine s_append (E := api_Inst_E) (F := no) (wf := wz) (xs := x_13.1) (ys := ([r_33.1] : List api_Inst)) (r := 1) hp_50 (tm rfl rfl) (tm rfl rfl) Try.underlying22 rfl rfl rfl rfl rfl rfl rfl O_22 (Own.src O_51 hp_50 (i := 3) rfl) g_52 rfl (fun A_53 c_54 w_55 X_56 hp_57 O_58 => ?_)
   refine sv (v := .slice A_53 (x_13.1 ++ ([r_33.1] : List api_Inst)).length c_54) rfl rfl rfl (e_assign (tm rfl rfl)) ?_
   refine k_nil ?_
   refine kr tb hp_57 [] [(16, .int .i64 (wrap64 (x_13.2 + 1)))] (by kernel_rfl) fun σ => ?_
   obtain rfl := Option.some.inj H
   exact ⟨_, rfl, ⟨_, A_53, c_54, X_56, seenF ⟨rfl, rfl, rfl, rfl, rfl, rfl, rfl, rfl, trivial⟩, hp_57.pick [0, 1] (by decide) rfl, O_58⟩⟩
  have H := iff_ h_24 H
  refine k_exit ?_
  refine q_here ?_
  obtain ⟨v_, H', hv_⟩ := mapSome H
  have hv_ := hz_14 _ hv_
  subst hv_
  have H := H'
  clear H'
  obtain rfl := Option.some.inj H
  exact ⟨x_13.1, _, A_20, c_23, X_21, rfl, seenF ⟨rfl, rfl, rfl, rfl, rfl, trivial⟩, hp_17, O_22⟩
 clear H
 rintro a w' ⟨s_12, σ_59, A_63, c_66, X_64, rfl, rfl, hp_60, O_65⟩
 have H := G_11
 refine k_seq ?_
 refine k_region ?_
 refine sr tb hp_60 [] 4 [(33, .slice A_63 s_12.length c_66), (34, .int .i64 a1), (35, .int .i64 a2), (36, .slice A_4 a3.length c_5)] (by kernel_rfl) fun σ => ?_
 obtain ⟨r_69, hx_68, H⟩ := bindSome H
 refine s_call (.cons (tm rfl rfl) (.cons (tm rfl rfl) (.cons (tm rfl rfl) (.cons (tm rfl rfl) .nil)))) Try.call11 (thread_Do.calls s_12 A_63 c_66 a1 a2 a3 A_4 c_5 r_69 _ _ (Hp.offCov hp_60 [] [[(b_7, .cells #[.slice none 0 0, .int .i64 0] 28 (0, 0))], X_64] rfl) (Own.pass (Own.any O_65) hp_60 (subRest [] [[(b_7, .cells #[.slice none 0 0, .int .i64 0] 28 (0, 0))], X_64] rfl) (i := 1) rfl) (RdS.pass q_6 hp_60) hx_68) rfl ?_
 rintro v_ w_70 ⟨A_74, c_75, X_77, rfl, q_76, af_73⟩
 have hp_71 := Hp.callA af_73 hp_60
 refine s_store (i := 1) (j := 0) (vs := [.slice A_74 r_69.Events.length c_75, .int .i64 r_69.Status]) (l' := [.slice A_74 r_69.Events.length c_75, .int .i64 r_69.Status]) hp_71 (tm rfl rfl) (tm rfl rfl) rfl Try.sizeOf28 rfl rfl rfl rfl rfl rfl (fun w_78 hp_79 => ?_)
 refine k_nil ?_
 refine k_ret ?_
 obtain rfl := Option.some.inj H
 exact k_end rfl (.cell rfl rfl (r_loadA Try.isAgg28 Try.sizeOf28 rfl (cells_box (sz := 2) (hp_79.get (i := 1) (j := 0) rfl rfl) rfl)) .nil) rfl ⟨A_74, c_75, X_77, rfl, q_76, (hp_79.pick [0] (by decide) rfl).aft⟩

/-! ### selvage/selvagelaw16.ThreadWords: function 8 -/
def selvagelaw16_ThreadWords.l0 (a0 : List Int) (a1 : Int) (a2 : Int) (a3 : List Int) (x_19 : (List api_Inst) × Int) : Option (((List api_Inst) × Int) ⊕ (List api_Inst ⊕ Bool)) :=
 if (decide (x_19.2 < (a0.length : Int))) = true then (if 0 ≤ x_19.2 ∧ x_19.2 < (a0.length : Int) then ((selvagelaw16_decode.m (gi a0 x_19.2)).bind fun r_39 => (if (!r_39.2) = true then ((thread_Words.m a0 a1 a2 a3).bind fun r_52 => ((selvageref16_Same.m r_52 (⟨([] : List api_Event), 0⟩ : api_Run)).bind fun r_63 => (((some r_63).map Sum.inr).map Sum.inr))) else (if (x_19.1.length + ([r_39.1] : List api_Inst).length) * 40 ≤ 140737488355328 then (some (Sum.inl ((x_19.1 ++ ([r_39.1] : List api_Inst)), wrap64 (x_19.2 + 1)))) else none))) else none) else ((some (Sum.inl x_19.1)).map Sum.inr)
def selvagelaw16_ThreadWords.m (a0 : List Int) (a1 : Int) (a2 : Int) (a3 : List Int) : Option Bool :=
 (selvagelaw16_awake.m).bind fun r_9 => (if (!r_9) = true then (some false) else (if ((decide ((a0.length : Int) > 300)) || (decide ((a3.length : Int) > 100))) = true then (some true) else ((loop (selvagelaw16_ThreadWords.l0 a0 a1 a2 a3) (([] : List api_Inst), 0) : Option (List api_Inst ⊕ Bool)).bind fun o_16 => match o_16 with | .inl s_18 => ((thread_Words.m a0 a1 a2 a3).bind fun r_91 => ((selvageref16_Do.m s_18 a1 a2 a3).bind fun r_110 => ((selvageref16_Same.m r_91 r_110).bind fun r_127 => (some r_127)))) | .inr r_132 => some r_132)))
set_option maxHeartbeats 4000000 in
set_option maxRecDepth 100000 in
theorem selvagelaw16_ThreadWords.calls (a0 : List Int) (A_1 : Option Addr) (c_2 : Nat) (a1 : Int) (a2 : Int) (a3 : List Int) (A_4 : Option Addr) (c_5 : Nat) (r : Bool) (w : World) (F : Nat → Prop) (hF : ∀ k, F k → Off w [] k) (q_3 : RdS (intE .u32) F w A_1 c_2 a0) (q_6 : RdS (intE .i64) F w A_4 c_5 a3) (H : selvagelaw16_ThreadWords.m a0 a1 a2 a3 = some r) :
 Ret Try.prog 8 [.slice A_1 a0.length c_2, .int .i64 a1, .int .i64 a2, .slice A_4 a3.length c_5] w fun v w' => ∃ (I_ : Nat → Prop), v = .bool r ∧ Frz F [] w I_ w' [] ∧ Aft w w' [] [] := by
 unfold selvagelaw16_ThreadWords.m at H
 have hp0 := Hp.startR (R := []) (Have.nil w) hF
 have ep0 := Ep.refl F [] w
 refine enter (L := [(0, .slice A_1 a0.length c_2), (1, .int .i64 a1), (2, .int .i64 a2), (3, .slice A_4 a3.length c_5)]) Try.func8 rfl Try.ntmps8 rfl rfl ?_
 refine kq tb hp0 [] [] (by kernel_rfl) fun σ => ?_
 refine k_seq ?_
 refine k_seq ?_
 refine k_region ?_
 obtain ⟨r_9, hx_8, H⟩ := bindSome H
 refine s_call .nil Try.call9 (selvagelaw16_awake.calls r_9 _ hx_8) rfl ?_
 rintro v_ w_10 ⟨rfl, af_13⟩
 have hp_11 := Hp.callA af_13 hp0
 refine sv (v := .bool (!r_9)) rfl rfl rfl (e_un (tm rfl rfl) (r_not rfl)) ?_
 refine k_nil ?_
 refine k_if (tm rfl rfl) (fun h_14 => ?_) (fun h_14 => ?_)
 ·have H := ift h_14 H
  refine kq tb hp_11 [] [(8, .bool false)] (by kernel_rfl) fun σ => ?_
  refine k_ret ?_
  obtain rfl := Option.some.inj H
  exact k_end rfl (.tmp rfl rfl .nil) rfl ⟨_, rfl, (Ep.frz ep0 (hp_11)), (hp_11).aft⟩
 have H := iff_ h_14 H
 refine k_skip ?_
 refine k_seq ?_
 refine kq tb hp_11 [] [(22, .bool ((decide ((a0.length : Int) > 300)) || (decide ((a3.length : Int) > 100))))] (by kernel_rfl) fun σ => ?_
 refine k_if (tm rfl rfl) (fun h_15 => ?_) (fun h_15 => ?_)
 ·have H := ift h_15 H
  refine kq tb hp_11 [] [(8, .bool true)] (by kernel_rfl) fun σ => ?_
  refine k_ret ?_
  obtain rfl := Option.some.inj H
  exact k_end rfl (.tmp rfl rfl .nil) rfl ⟨_, rfl, (Ep.frz ep0 (hp_11)), (hp_11).aft⟩
 have H := iff_ h_15 H
 refine k_skip ?_
 refine kq tb hp_11 [] [(9, .slice none 0 0)] (by kernel_rfl) fun σ => ?_
 refine k_seq ?_
 refine kq tb hp_11 [] [(10, .int .i64 0)] (by kernel_rfl) fun σ => ?_
 obtain ⟨o_16, H, G_17⟩ := bindSome H
 refine k_cut (fun a w' => ∃ (s_18 : List api_Inst) (σ_133 : Nat → Value) (A_137 : Option Addr) (c_140 : Nat) (X_138 : Rsc), o_16 = Sum.inl s_18 ∧ a = st 61 [(0, .slice A_1 a0.length c_2), (1, .int .i64 a1), (2, .int .i64 a2), (3, .slice A_4 a3.length c_5), (9, .slice A_137 s_18.length c_140)] σ_133 [] ∧ Hp (On []) F w w w' [X_138] ∧ Own api_Inst_E no wz 44 A_137 c_140 s_18 X_138) ?_ ?_
 ·as_aux_lemma =>
  refine k_block ?_
  refine k_lp (fun (x_19 : (List api_Inst) × Int) a w' => ∃ (σ_81 : Nat → Value) (A_85 : Option Addr) (c_88 : Nat) (X_86 : Rsc), a = st 61 [(0, .slice A_1 a0.length c_2), (1, .int .i64 a1), (2, .int .i64 a2), (3, .slice A_4 a3.length c_5), (9, .slice A_85 x_19.1.length c_88), (10, .int .i64 x_19.2)] σ_81 [] ∧ Hp (On []) F w w w' [X_86] ∧ Own api_Inst_E no wz 44 A_85 c_88 x_19.1 X_86) H ⟨_, none, 0, [], seenF ⟨rfl, rfl, rfl, rfl, rfl, rfl, trivial⟩, hp_11.pick [0] (by decide) rfl, Own.nil _ _ _ _⟩ ?_
  clear H
  rintro x_19 a w' z_ ⟨σ_22, A_26, c_29, X_27, rfl, hp_23, O_28⟩ H hz_20
  unfold selvagelaw16_ThreadWords.l0 at H
  refine k_seq ?_
  refine kq tb hp_23 [] [(26, .bool (decide (x_19.2 < (a0.length : Int))))] (by kernel_rfl) fun σ => ?_
  refine k_if (tm rfl rfl) (fun h_30 => ?_) (fun h_30 => ?_)
  ·as_aux_lemma =>
   have H := ift h_30 H
   refine k_skip ?_
   refine k_seq ?_
   refine k_block ?_
   refine k_seq ?_
   refine k_region ?_
   obtain ⟨g_31, H⟩ := grd H
   obtain ⟨a_36, cs_33, pl_34, q_35, rp_32⟩ := rd_idx q_3 g_31
   obtain rfl : cs_33 = [.int .u32 (gi a0 x_19.2)] := rp_32
   refine srx tb hp_23 [⟨_, _, (hp_23.ep q_35)⟩] [.s 32 1 _ _ c_2 _ 1 _ pl_34 g_31] [] [] [] 4 [(33, .int .u32 (gi a0 x_19.2))] (by kernel_rfl) fun σ => ?_
   obtain ⟨r_39, hx_38, H⟩ := bindSome H
   refine s_call (.cons (tm rfl rfl) .nil) Try.call16 (selvagelaw16_decode.calls (gi a0 x_19.2) r_39 _ hx_38) rfl ?_
   rintro v_ w_40 ⟨rfl, af_43⟩
   have hp_41 := Hp.callA af_43 hp_23
   refine sv (v := .tuple #[.agg #[.int .i64 r_39.1.Op, .int .i64 r_39.1.T, .int .i64 r_39.1.A, .int .i64 r_39.1.B, .int .i64 r_39.1.Imm], .bool r_39.2]) rfl rfl rfl (e_move (tm rfl rfl)) ?_
   refine sr tb hp_41 [] 2 [(35, .agg #[.int .i64 r_39.1.Op, .int .i64 r_39.1.T, .int .i64 r_39.1.A, .int .i64 r_39.1.B, .int .i64 r_39.1.Imm]), (36, .bool r_39.2)] (by kernel_rfl) fun σ => ?_
   refine s_alloc (zv := .agg #[.int .i64 0, .int .i64 0, .int .i64 0, .int .i64 0, .int .i64 0]) (l := [.int .i64 0, .int .i64 0, .int .i64 0, .int .i64 0, .int .i64 0]) hp_41 (by intro w_; kernel_rfl) rfl rfl (fun b_44 w_45 hp_46 => ?_)
   refine s_store (i := 1) (j := 0) (vs := [.int .i64 r_39.1.Op, .int .i64 r_39.1.T, .int .i64 r_39.1.A, .int .i64 r_39.1.B, .int .i64 r_39.1.Imm]) (l' := [.int .i64 r_39.1.Op, .int .i64 r_39.1.T, .int .i64 r_39.1.A, .int .i64 r_39.1.B, .int .i64 r_39.1.Imm]) hp_46 (tm rfl rfl) (tm rfl rfl) rfl Try.sizeOf44 rfl rfl rfl rfl rfl rfl (fun w_47 hp_48 => ?_)
   refine sv (v := .bool r_39.2) rfl rfl rfl (e_assign (tm rfl rfl)) ?_
   refine k_nil ?_
   refine k_seq ?_
   refine kq tb hp_48 [] [(38, .bool (!r_39.2))] (by kernel_rfl) fun σ => ?_
   refine k_if (tm rfl rfl) (fun h_49 => ?_) (fun h_49 => ?_)
   ·as_aux_lemma =>
    have H := ift h_49 H
    refine k_seq ?_
    refine k_region ?_
    refine sr tb hp_48 [] 4 [(39, .slice A_1 a0.length c_2), (40, .int .i64 a1), (41, .int .i64 a2), (42, .slice A_4 a3.length c_5)] (by kernel_rfl) fun σ => ?_
    obtain ⟨r_52, hx_51, H⟩ := bindSome H
    refine s_call (.cons (tm rfl rfl) (.cons (tm rfl rfl) (.cons (tm rfl rfl) (.cons (tm rfl rfl) .nil)))) Try.call17 (thread_Words.calls a0 A_1 c_2 a1 a2 a3 A_4 c_5 r_52 _ _ (Hp.offCov hp_48 [] [X_27, [(b_44, .cells #[.int .i64 r_39.1.Op, .int .i64 r_39.1.T, .int .i64 r_39.1.A, .int .i64 r_39.1.B, .int .i64 r_39.1.Imm] 44 (0, 0))]] rfl) (RdS.pass q_3 hp_48) (RdS.pass q_6 hp_48) hx_51) rfl ?_
    rintro v_ w_53 ⟨A_57, c_58, X_60, rfl, q_59, af_56⟩
    have hp_54 := Hp.callA af_56 hp_48
    refine sv (v := .agg #[.slice none 0 0, .int .i64 0]) rfl rfl rfl (e_build (vs := []) (cs := [.slice none 0 0, .int .i64 0]) .nil (by kernel_rfl)) ?_
    obtain ⟨r_63, hx_62, H⟩ := bindSome H
    refine s_call (.cons (tm rfl rfl) (.cons (tm rfl rfl) .nil)) Try.call10 (selvageref16_Same.calls r_52 A_57 c_58 (⟨([] : List api_Event), 0⟩ : api_Run) none 0 r_63 _ _ (Hp.offCov hp_54 [] [X_60, X_27, [(b_44, .cells #[.int .i64 r_39.1.Op, .int .i64 r_39.1.T, .int .i64 r_39.1.A, .int .i64 r_39.1.B, .int .i64 r_39.1.Imm] 44 (0, 0))]] rfl) (Own.pass (Own.any q_59) hp_54 (subRest [] [X_60, X_27, [(b_44, .cells #[.int .i64 r_39.1.Op, .int .i64 r_39.1.T, .int .i64 r_39.1.A, .int .i64 r_39.1.B, .int .i64 r_39.1.Imm] 44 (0, 0))]] rfl) (i := 0) rfl) (RdS.nil _ _) hx_62) rfl ?_
    rintro v_ w_64 ⟨rfl, af_67⟩
    have hp_65 := Hp.callA af_67 hp_54
    refine sv (v := .bool r_63) rfl rfl rfl (e_assign (tm rfl rfl)) ?_
    refine k_nil ?_
    refine k_ret ?_
    refine q_ret ?_
    refine q_ret ?_
    obtain ⟨v_, H', hv_⟩ := mapSome H
    have hv_ := hz_20 _ hv_
    subst hv_
    have H := H'
    clear H'
    obtain ⟨v_, H', hv_⟩ := mapSome H
    subst hv_
    have H := H'.trans (show some v_ = _ from G_17)
    obtain rfl := Option.some.inj H
    exact k_end rfl (.tmp rfl rfl .nil) rfl ⟨_, rfl, (Ep.frz ep0 (hp_65.pick [] (by decide) rfl)), (hp_65.pick [] (by decide) rfl).aft⟩
   have H := iff_ h_49 H
   refine k_skip ?_
   refine k_region ?_
   refine sr tb hp_48 [(11, 1, 0)] 2 [(46, .slice A_26 x_19.1.length c_29), (47, .agg #[.int .i64 r_39.1.Op, .int .i64 r_39.1.T, .int .i64 r_39.1.A, .int .i64 r_39.1.B, .int .i64 r_39.1.Imm])] (by kernel_rfl) fun σ => ?_
   refine s_buildC (zv := .agg #[.int .i64 0, .int .i64 0, .int .i64 0, .int .i64 0, .int .i64 0]) (E := api_Inst_E) (F := no) (wf := wz) (xs := ([r_39.1] : List api_Inst)) (cs := [.int .i64 r_39.1.Op, .int .i64 r_39.1.T, .int .i64 r_39.1.A, .int .i64 r_39.1.B, .int .i64 r_39.1.Imm]) (vs := [(0, .agg #[.int .i64 r_39.1.Op, .int .i64 r_39.1.T, .int .i64 r_39.1.A, .int .i64 r_39.1.B, .int .i64 r_39.1.Imm])]) hp_48 (.cons (tm rfl rfl) .nil) Try.runUnderlying22 Try.sizeOf44 (by intro w_; kernel_rfl) rfl rfl rfl (Reps.cat.2 rfl) rfl rfl rfl rfl (fun A_68 c_69 w_70 X_71 hp_72 O_73 => ?_)
   obtain ⟨g_74, H⟩ := grd H
   refine s_append (E := api_Inst_E) (F := no) (wf := wz) (xs := x_19.1) (ys := ([r_39.1] : List api_Inst)) (r := 0) hp_72 (tm rfl rfl) (tm rfl rfl) Try.underlying22 rfl rfl rfl rfl rfl rfl rfl O_28 (Own.src O_73 hp_72 (i := 2) rfl) g_74 rfl (fun A_75 c_76 w_77 X_78 hp_79 O_80 => ?_)
   refine sv (v := .slice A_75 (x_19.1 ++ ([r_39.1] : List api_Inst)).length c_76) rfl rfl rfl (e_assign (tm rfl rfl)) ?_
   refine k_nil ?_
   refine kr tb hp_79 [] [(10, .int .i64 (wrap64 (x_19.2 + 1)))] (by kernel_rfl) fun σ => ?_
   obtain rfl := Option.some.inj H
   exact ⟨_, rfl, ⟨_, A_75, c_76, X_78, seenF ⟨rfl, rfl, rfl, rfl, rfl, rfl, trivial⟩, hp_79.pick [0] (by decide) rfl, O_80⟩⟩
  have H := iff_ h_30 H
  refine k_exit ?_
  refine q_here ?_
  obtain ⟨v_, H', hv_⟩ := mapSome H
  have hv_ := hz_20 _ hv_
  subst hv_
  have H := H'
  clear H'
  obtain rfl := Option.some.inj H
  exact ⟨x_19.1, _, A_26, c_29, X_27, rfl, seenF ⟨rfl, rfl, rfl, rfl, rfl, trivial⟩, hp_23, O_28⟩
 clear H
 rintro a w' ⟨s_18, σ_81, A_85, c_88, X_86, rfl, rfl, hp_82, O_87⟩
 have H := G_17
 refine k_seq ?_
 refine k_region ?_
 refine sr tb hp_82 [] 4 [(50, .slice A_1 a0.length c_2), (51, .int .i64 a1), (52, .int .i64 a2), (53, .slice A_4 a3.length c_5)] (by kernel_rfl) fun σ => ?_
 obtain ⟨r_91, hx_90, H⟩ := bindSome H
 refine s_call (.cons (tm rfl rfl) (.cons (tm rfl rfl) (.cons (tm rfl rfl) (.cons (tm rfl rfl) .nil)))) Try.call17 (thread_Words.calls a0 A_1 c_2 a1 a2 a3 A_4 c_5 r_91 _ _ (Hp.offCov hp_82 [] [X_86] rfl) (RdS.pass q_3 hp_82) (RdS.pass q_6 hp_82) hx_90) rfl ?_
 rintro v_ w_92 ⟨A_96, c_97, X_99, rfl, q_98, af_95⟩
 have hp_93 := Hp.callA af_95 hp_82
 refine sr tb hp_93 [] 4 [(55, .slice A_85 s_18.length c_88), (56, .int .i64 a1), (57, .int .i64 a2), (58, .slice A_4 a3.length c_5)] (by kernel_rfl) fun σ => ?_
 have hp_100 := Hp.pick (R' := [X_86, X_99]) [1, 0] hp_93 (by decide) rfl
 have q_104 := (Own.any O_87).froze hp_100
 have ep_103 := ep0.freeze hp_100
 have u_102 := hp_100.frozenUp
 have hp_101 := hp_100.freeze
 have q_106 := q_3.up u_102
 have q_107 := q_6.up u_102
 obtain ⟨r_110, hx_109, H⟩ := bindSome H
 refine s_call (.cons (tm rfl rfl) (.cons (tm rfl rfl) (.cons (tm rfl rfl) (.cons (tm rfl rfl) .nil)))) Try.call12 (selvageref16_Do.calls s_18 A_85 c_88 a1 a2 a3 A_4 c_5 r_110 _ _ (Hp.offI hp_101 [] _ rfl) (RdS.now q_104 hp_101) (RdS.now q_107 hp_101) hx_109) rfl ?_
 rintro v_ w_111 ⟨I_113, A_116, c_117, X_119, rfl, q_118, z_114, af_115⟩
 have hp_112 := Hp.callZA af_115 z_114 hp_101
 have ep_120 := Ep.callA z_114 ep_103 hp_101
 have u_121 := Hp.upZ hp_101 z_114
 have q_122 := q_106.up u_121
 have q_123 := q_107.up u_121
 have q_124 := q_104.up u_121
 obtain ⟨r_127, hx_126, H⟩ := bindSome H
 refine s_call (.cons (tm rfl rfl) (.cons (tm rfl rfl) .nil)) Try.call10 (selvageref16_Same.calls r_91 A_96 c_97 r_110 A_116 c_117 r_127 _ _ (Hp.offCov hp_112 [] [X_119, X_99] rfl) (Own.pass (Own.any q_98) hp_112 (subRest [] [X_119, X_99] rfl) (i := 1) rfl) (Own.pass (Own.any q_118) hp_112 (subRest [] [X_119, X_99] rfl) (i := 0) rfl) hx_126) rfl ?_
 rintro v_ w_128 ⟨rfl, af_131⟩
 have hp_129 := Hp.callA af_131 hp_112
 refine sv (v := .bool r_127) rfl rfl rfl (e_assign (tm rfl rfl)) ?_
 refine k_nil ?_
 refine k_ret ?_
 obtain rfl := Option.some.inj H
 exact k_end rfl (.tmp rfl rfl .nil) rfl ⟨_, rfl, (Ep.frz ep_120 (hp_129.pick [] (by decide) rfl)), (hp_129.pick [] (by decide) rfl).aft⟩

end Go.Proofs.Ytcnchjlomcafeaa.W

/- Functions of the program as plain Lean functions, and that the calls do what they say: written by w2.py. -/
import Derived.Test.YtcnchjlomcafeaaRun
import Derived.Test.YtcnchjlomcafeaaTy
import Derived.Test.YtcnchjlomcafeaaG3
import Derived.Test.YtcnchjlomcafeaaF36
import Derived.Test.YtcnchjlomcafeaaG5
set_option linter.unusedVariables false
set_option linter.unusedSimpArgs false
set_option linter.unusedSectionVars false
namespace Go.Proofs.Ytcnchjlomcafeaa.W
open Go Go.RowKit Go.Proofs.Ytcnchjlomcafeaa.B
attribute [local irreducible] Go.wpList Go.Code.wp Go.Region.wanted Go.yielded
/-! ### selvage/selvageref15.Decode: function 29 -/
def selvageref15_Decode.l1 (a0 : Int) (x_35 : Int) (x_132 : (List api_Inst) × Int) : Option (((List api_Inst) × Int) ⊕ (List api_Inst)) :=
 if (decide (x_132.2 < 4)) = true then (if (x_132.1.length + ([(⟨x_35, x_132.2, 0, 0, wrap64 (4 * (selvageref15_signed.m (selvageref15_bits.m a0 16 14) 14))⟩ : api_Inst)] : List api_Inst).length) * 40 ≤ 140737488355328 then (some (Sum.inl ((x_132.1 ++ ([(⟨x_35, x_132.2, 0, 0, wrap64 (4 * (selvageref15_signed.m (selvageref15_bits.m a0 16 14) 14))⟩ : api_Inst)] : List api_Inst)), wrap64 (x_132.2 + 1)))) else none) else ((some x_132.1).map Sum.inr)
def selvageref15_Decode.l2 (a0 : Int) (o_50 : List api_Inst) (x_218 : Int) : Option (Int ⊕ (Unit ⊕ (Int ⊕ (Unit ⊕ (api_Inst × Int))))) :=
 if (decide (x_218 < (o_50.length : Int))) = true then (if 0 ≤ x_218 ∧ x_218 < (o_50.length : Int) then ((selvageref15_Encode.m (⟨(gi o_50 x_218).Op, (gi o_50 x_218).T, (gi o_50 x_218).A, (gi o_50 x_218).B, (gi o_50 x_218).Imm⟩ : api_Inst)).bind fun r_234 => (if ((decide (r_234.2 = 0)) && (decide (r_234.1 = a0))) = true then (((((some ((⟨(gi o_50 x_218).Op, (gi o_50 x_218).T, (gi o_50 x_218).A, (gi o_50 x_218).B, (gi o_50 x_218).Imm⟩ : api_Inst), 0)).map Sum.inr).map Sum.inr).map Sum.inr).map Sum.inr) else (some (Sum.inl (wrap64 (x_218 + 1)))))) else none) else ((some (Sum.inl ())).map Sum.inr)
def selvageref15_Decode.l0 (a0 : Int) (x_35 : Int) : Option (Int ⊕ (Unit ⊕ (api_Inst × Int))) :=
 if (decide (x_35 ≤ 23)) = true then ((selvageref15_sort.m x_35).bind fun r_45 => ((if (decide (r_45 = 1)) = true then (some ([(⟨x_35, (selvageref15_bits.m a0 6 5), (selvageref15_bits.m a0 11 5), 0, (selvageref15_signed.m (selvageref15_bits.m a0 16 16) 16)⟩ : api_Inst)] : List api_Inst)) else (if (decide (r_45 = 2)) = true then (some ([(⟨x_35, (selvageref15_bits.m a0 11 5), (selvageref15_bits.m a0 6 5), 0, (selvageref15_bits.m a0 16 16)⟩ : api_Inst)] : List api_Inst)) else (if (decide (r_45 = 3)) = true then (some ([(⟨x_35, (selvageref15_bits.m a0 11 5), (selvageref15_bits.m a0 6 5), 0, (selvageref15_bits.m a0 16 5)⟩ : api_Inst), (⟨x_35, (selvageref15_bits.m a0 11 5), (selvageref15_bits.m a0 6 5), 0, wrap64 ((selvageref15_bits.m a0 16 5) + 32)⟩ : api_Inst)] : List api_Inst)) else (if (decide (r_45 = 4)) = true then (some ([(⟨x_35, (selvageref15_bits.m a0 6 5), (selvageref15_bits.m a0 11 5), (selvageref15_bits.m a0 16 5), 0⟩ : api_Inst)] : List api_Inst)) else (if (decide (r_45 = 5)) = true then (some ([(⟨x_35, (selvageref15_bits.m a0 6 5), (selvageref15_bits.m a0 11 5), 0, wrap64 (4 * (selvageref15_signed.m (selvageref15_bits.m a0 16 14) 14))⟩ : api_Inst)] : List api_Inst)) else (if (decide (r_45 = 6)) = true then (some ([(⟨x_35, 0, (selvageref15_bits.m a0 11 5), (selvageref15_bits.m a0 16 5), 0⟩ : api_Inst)] : List api_Inst)) else (if (decide (r_45 = 7)) = true then (some ([(⟨x_35, 0, (selvageref15_bits.m a0 11 5), 0, (selvageref15_signed.m (selvageref15_bits.m a0 16 16) 16)⟩ : api_Inst)] : List api_Inst)) else (if (decide (r_45 = 8)) = true then ((loop (selvageref15_Decode.l1 a0 x_35) (([] : List api_Inst), 0) : Option (List api_Inst)).bind fun o_130 => some o_130) else (if (decide (r_45 = 9)) = true then (some ([(⟨x_35, 0, 0, 0, wrap64 (4 * (selvageref15_signed.m (selvageref15_bits.m a0 6 24) 24))⟩ : api_Inst)] : List api_Inst)) else (some ([(⟨x_35, 0, 0, 0, 0⟩ : api_Inst)] : List api_Inst)))))))))) : Option (List api_Inst)).bind fun o_50 => (loop (selvageref15_Decode.l2 a0 o_50) 0 : Option (Unit ⊕ (Int ⊕ (Unit ⊕ (api_Inst × Int))))).bind fun o_215 => match o_215 with | .inl s_217 => (some (Sum.inl (wrap64 (x_35 + 1)))) | .inr r_251 => some r_251)) else ((some (Sum.inl ())).map Sum.inr)
def selvageref15_Decode.m (a0 : Int) : Option (api_Inst × Int) :=
 (loop (selvageref15_Decode.l0 a0) 1 : Option (Unit ⊕ (api_Inst × Int))).bind fun o_32 => match o_32 with | .inl s_34 => (some ((⟨0, 0, 0, 0, 0⟩ : api_Inst), 3)) | .inr r_259 => some r_259
set_option maxHeartbeats 4000000 in
set_option maxRecDepth 100000 in
theorem selvageref15_Decode.calls (a0 : Int) (r : api_Inst × Int) (w : World) (H : selvageref15_Decode.m a0 = some r) :
 Ret Try.prog 29 [.int .u32 a0] w fun v w' => v = .tuple #[.agg #[.int .i64 r.1.Op, .int .i64 r.1.T, .int .i64 r.1.A, .int .i64 r.1.B, .int .i64 r.1.Imm], .int .i64 r.2] ∧ Aft w w' [] [] := by
 unfold selvageref15_Decode.m at H
 have hp0 := Hp.startR (F := no) (R := []) (Have.nil w) (fun _ h => h.elim)
 have ep0 := Ep.refl no [] w
 refine enter (L := [(0, .int .u32 a0)]) Try.func29 rfl Try.ntmps29 rfl rfl ?_
 refine k_seq ?_
 refine k_region ?_
 refine s_alloc (zv := .agg #[.int .i64 0, .int .i64 0, .int .i64 0, .int .i64 0, .int .i64 0]) (l := [.int .i64 0, .int .i64 0, .int .i64 0, .int .i64 0, .int .i64 0]) hp0 (by intro w_; kernel_rfl) rfl rfl (fun b_1 w_2 hp_3 => ?_)
 refine sv (v := .int .i64 0) rfl rfl rfl (e_assign rfl) ?_
 refine k_nil ?_
 refine k_seq ?_
 refine k_region ?_
 refine sv (v := .int .u32 a0) rfl rfl rfl (e_move (tm rfl rfl)) ?_
 refine s_call (.cons (tm rfl rfl) (.cons rfl (.cons rfl .nil))) Try.call52 (selvageref15_bits.calls a0 6 5 _) rfl ?_
 rintro v_ w_7 ⟨rfl, af_10⟩
 have hp_8 := Hp.callA af_10 hp_3
 refine sv (v := .int .u32 a0) rfl rfl rfl (e_move (tm rfl rfl)) ?_
 refine s_call (.cons (tm rfl rfl) (.cons rfl (.cons rfl .nil))) Try.call52 (selvageref15_bits.calls a0 11 5 _) rfl ?_
 rintro v_ w_14 ⟨rfl, af_17⟩
 have hp_15 := Hp.callA af_17 hp_8
 refine sv (v := .int .u32 a0) rfl rfl rfl (e_move (tm rfl rfl)) ?_
 refine s_call (.cons (tm rfl rfl) (.cons rfl (.cons rfl .nil))) Try.call52 (selvageref15_bits.calls a0 16 5 _) rfl ?_
 rintro v_ w_21 ⟨rfl, af_24⟩
 have hp_22 := Hp.callA af_24 hp_15
 refine sr tb hp_22 [] 3 [(4, .int .i64 (selvageref15_bits.m a0 6 5)), (5, .int .i64 (selvageref15_bits.m a0 11 5)), (6, .int .i64 (selvageref15_bits.m a0 16 5))] (by kernel_rfl) fun σ => ?_
 refine k_nil ?_
 refine k_seq ?_
 refine k_region ?_
 refine sv (v := .int .u32 a0) rfl rfl rfl (e_move (tm rfl rfl)) ?_
 refine s_call (.cons (tm rfl rfl) (.cons rfl (.cons rfl .nil))) Try.call52 (selvageref15_bits.calls a0 16 16 _) rfl ?_
 rintro v_ w_28 ⟨rfl, af_31⟩
 have hp_29 := Hp.callA af_31 hp_22
 refine sv (v := .int .i64 (selvageref15_bits.m a0 16 16)) rfl rfl rfl (e_assign (tm rfl rfl)) ?_
 refine k_nil ?_
 refine k_seq ?_
 refine kq tb hp_29 [] [(8, .int .i64 1)] (by kernel_rfl) fun σ => ?_
 obtain ⟨o_32, H, G_33⟩ := bindSome H
 refine k_cut (fun a w' => ∃ (s_34 : Unit) (σ_260 : Nat → Value), o_32 = Sum.inl s_34 ∧ a = st 147 [(2, .pointer (some ⟨b_1, 0, none⟩))] σ_260 [] ∧ Hp (On []) no w w w' [[(b_1, .cells #[.int .i64 0, .int .i64 0, .int .i64 0, .int .i64 0, .int .i64 0] 44 (0, 0))]]) ?_ ?_
 ·as_aux_lemma =>
   refine k_block ?_
   refine k_lp (fun (x_35 : Int) a w' => ∃ (σ_253 : Nat → Value), a = st 147 [(0, .int .u32 a0), (2, .pointer (some ⟨b_1, 0, none⟩)), (4, .int .i64 (selvageref15_bits.m a0 6 5)), (5, .int .i64 (selvageref15_bits.m a0 11 5)), (6, .int .i64 (selvageref15_bits.m a0 16 5)), (7, .int .i64 (selvageref15_bits.m a0 16 16)), (8, .int .i64 x_35)] σ_253 [] ∧ Hp (On []) no w w w' [[(b_1, .cells #[.int .i64 0, .int .i64 0, .int .i64 0, .int .i64 0, .int .i64 0] 44 (0, 0))]]) H ⟨_, seenF ⟨rfl, rfl, rfl, rfl, rfl, rfl, rfl, trivial⟩, hp_29⟩ ?_
   clear H
   rintro x_35 a w' z_ ⟨σ_38, rfl, hp_39⟩ H hz_36
   unfold selvageref15_Decode.l0 at H
   refine k_seq ?_
   refine kq tb hp_39 [] [(23, .bool (decide (x_35 ≤ 23)))] (by kernel_rfl) fun σ => ?_
   refine k_if (tm rfl rfl) (fun h_42 => ?_) (fun h_42 => ?_)
   ·as_aux_lemma =>
     have H := ift h_42 H
     refine k_skip ?_
     refine k_seq ?_
     refine k_block ?_
     refine kq tb hp_39 [] [(9, .slice none 0 0)] (by kernel_rfl) fun σ => ?_
     refine k_seq ?_
     refine k_seq ?_
     refine k_region ?_
     refine sv (v := .int .i64 x_35) rfl rfl rfl (e_move (tm rfl rfl)) ?_
     obtain ⟨r_45, hx_44, H⟩ := bindSome H
     refine s_call (.cons (tm rfl rfl) .nil) Try.call42 (selvageref15_sort.calls x_35 r_45 _ hx_44) rfl ?_
     rintro v_ w_46 ⟨rfl, af_49⟩
     have hp_47 := Hp.callA af_49 hp_39
     refine k_nil ?_
     obtain ⟨o_50, H, G_51⟩ := bindSome H
     refine k_cut (fun a w' => ∃ (σ_253 : Nat → Value) (A_257 : Option Addr) (c_260 : Nat) (X_258 : Rsc), a = st 147 [(0, .int .u32 a0), (2, .pointer (some ⟨b_1, 0, none⟩)), (4, .int .i64 (selvageref15_bits.m a0 6 5)), (5, .int .i64 (selvageref15_bits.m a0 11 5)), (6, .int .i64 (selvageref15_bits.m a0 16 5)), (7, .int .i64 (selvageref15_bits.m a0 16 16)), (8, .int .i64 x_35), (9, .slice A_257 o_50.length c_260)] σ_253 [] ∧ Hp (On []) no w w w' [[(b_1, .cells #[.int .i64 0, .int .i64 0, .int .i64 0, .int .i64 0, .int .i64 0] 44 (0, 0))], X_258] ∧ Own api_Inst_E no wz 44 A_257 c_260 o_50 X_258) ?_ ?_
     ·as_aux_lemma =>
       refine k_block ?_
       refine kq tb hp_47 [] [(31, .bool (decide (r_45 = 1)))] (by kernel_rfl) fun σ => ?_
       refine k_if (tm rfl rfl) (fun h_52 => ?_) (fun h_52 => ?_)
       ·have H := ift h_52 H
        refine k_region ?_
        refine sr tb hp_47 [] 4 [(33, .int .i64 x_35), (34, .int .i64 (selvageref15_bits.m a0 6 5)), (35, .int .i64 (selvageref15_bits.m a0 11 5)), (36, .int .i64 (selvageref15_bits.m a0 16 16))] (by kernel_rfl) fun σ => ?_
        refine s_call (.cons (tm rfl rfl) (.cons rfl .nil)) Try.call53 (selvageref15_signed.calls (selvageref15_bits.m a0 16 16) 16 _) rfl ?_
        rintro v_ w_56 ⟨rfl, af_59⟩
        have hp_57 := Hp.callA af_59 hp_47
        refine sv (v := .agg #[.int .i64 x_35, .int .i64 (selvageref15_bits.m a0 6 5), .int .i64 (selvageref15_bits.m a0 11 5), .int .i64 0, .int .i64 (selvageref15_signed.m (selvageref15_bits.m a0 16 16) 16)]) rfl rfl rfl (e_build (vs := [(0, .int .i64 x_35), (1, .int .i64 (selvageref15_bits.m a0 6 5)), (2, .int .i64 (selvageref15_bits.m a0 11 5)), (4, .int .i64 (selvageref15_signed.m (selvageref15_bits.m a0 16 16) 16))]) (cs := [.int .i64 x_35, .int .i64 (selvageref15_bits.m a0 6 5), .int .i64 (selvageref15_bits.m a0 11 5), .int .i64 0, .int .i64 (selvageref15_signed.m (selvageref15_bits.m a0 16 16) 16)]) (.cons (tm rfl rfl) (.cons (tm rfl rfl) (.cons (tm rfl rfl) (.cons (tm rfl rfl) .nil)))) (by kernel_rfl)) ?_
        refine s_buildC (zv := .agg #[.int .i64 0, .int .i64 0, .int .i64 0, .int .i64 0, .int .i64 0]) (E := api_Inst_E) (F := no) (wf := wz) (xs := ([(⟨x_35, (selvageref15_bits.m a0 6 5), (selvageref15_bits.m a0 11 5), 0, (selvageref15_signed.m (selvageref15_bits.m a0 16 16) 16)⟩ : api_Inst)] : List api_Inst)) (cs := [.int .i64 x_35, .int .i64 (selvageref15_bits.m a0 6 5), .int .i64 (selvageref15_bits.m a0 11 5), .int .i64 0, .int .i64 (selvageref15_signed.m (selvageref15_bits.m a0 16 16) 16)]) (vs := [(0, .agg #[.int .i64 x_35, .int .i64 (selvageref15_bits.m a0 6 5), .int .i64 (selvageref15_bits.m a0 11 5), .int .i64 0, .int .i64 (selvageref15_signed.m (selvageref15_bits.m a0 16 16) 16)])]) hp_57 (.cons (tm rfl rfl) .nil) Try.runUnderlying22 Try.sizeOf44 (by intro w_; kernel_rfl) rfl rfl rfl (Reps.cat.2 rfl) rfl rfl rfl rfl (fun A_60 c_61 w_62 X_63 hp_64 O_65 => ?_)
        refine sv (v := .slice A_60 ([(⟨x_35, (selvageref15_bits.m a0 6 5), (selvageref15_bits.m a0 11 5), 0, (selvageref15_signed.m (selvageref15_bits.m a0 16 16) 16)⟩ : api_Inst)] : List api_Inst).length c_61) rfl rfl rfl (e_assign (tm rfl rfl)) ?_
        refine k_nil ?_
        obtain rfl := Option.some.inj H
        exact ⟨_, A_60, c_61, X_63, seenF ⟨rfl, rfl, rfl, rfl, rfl, rfl, rfl, rfl, trivial⟩, hp_64, O_65⟩
       have H := iff_ h_52 H
       refine kq tb hp_47 [] [(40, .bool (decide (r_45 = 2)))] (by kernel_rfl) fun σ => ?_
       refine k_if (tm rfl rfl) (fun h_66 => ?_) (fun h_66 => ?_)
       ·have H := ift h_66 H
        refine k_region ?_
        refine sr tb hp_47 [] 5 [(46, .agg #[.int .i64 x_35, .int .i64 (selvageref15_bits.m a0 11 5), .int .i64 (selvageref15_bits.m a0 6 5), .int .i64 0, .int .i64 (selvageref15_bits.m a0 16 16)])] (by kernel_rfl) fun σ => ?_
        refine s_buildC (zv := .agg #[.int .i64 0, .int .i64 0, .int .i64 0, .int .i64 0, .int .i64 0]) (E := api_Inst_E) (F := no) (wf := wz) (xs := ([(⟨x_35, (selvageref15_bits.m a0 11 5), (selvageref15_bits.m a0 6 5), 0, (selvageref15_bits.m a0 16 16)⟩ : api_Inst)] : List api_Inst)) (cs := [.int .i64 x_35, .int .i64 (selvageref15_bits.m a0 11 5), .int .i64 (selvageref15_bits.m a0 6 5), .int .i64 0, .int .i64 (selvageref15_bits.m a0 16 16)]) (vs := [(0, .agg #[.int .i64 x_35, .int .i64 (selvageref15_bits.m a0 11 5), .int .i64 (selvageref15_bits.m a0 6 5), .int .i64 0, .int .i64 (selvageref15_bits.m a0 16 16)])]) hp_47 (.cons (tm rfl rfl) .nil) Try.runUnderlying22 Try.sizeOf44 (by intro w_; kernel_rfl) rfl rfl rfl (Reps.cat.2 rfl) rfl rfl rfl rfl (fun A_67 c_68 w_69 X_70 hp_71 O_72 => ?_)
        refine sv (v := .slice A_67 ([(⟨x_35, (selvageref15_bits.m a0 11 5), (selvageref15_bits.m a0 6 5), 0, (selvageref15_bits.m a0 16 16)⟩ : api_Inst)] : List api_Inst).length c_68) rfl rfl rfl (e_assign (tm rfl rfl)) ?_
        refine k_nil ?_
        obtain rfl := Option.some.inj H
        exact ⟨_, A_67, c_68, X_70, seenF ⟨rfl, rfl, rfl, rfl, rfl, rfl, rfl, rfl, trivial⟩, hp_71, O_72⟩
       have H := iff_ h_66 H
       refine kq tb hp_47 [] [(48, .bool (decide (r_45 = 3)))] (by kernel_rfl) fun σ => ?_
       refine k_if (tm rfl rfl) (fun h_73 => ?_) (fun h_73 => ?_)
       ·have H := ift h_73 H
        refine k_region ?_
        refine sr tb hp_47 [] 11 [(54, .agg #[.int .i64 x_35, .int .i64 (selvageref15_bits.m a0 11 5), .int .i64 (selvageref15_bits.m a0 6 5), .int .i64 0, .int .i64 (selvageref15_bits.m a0 16 5)]), (60, .agg #[.int .i64 x_35, .int .i64 (selvageref15_bits.m a0 11 5), .int .i64 (selvageref15_bits.m a0 6 5), .int .i64 0, .int .i64 (wrap64 ((selvageref15_bits.m a0 16 5) + 32))])] (by kernel_rfl) fun σ => ?_
        refine s_buildC (zv := .agg #[.int .i64 0, .int .i64 0, .int .i64 0, .int .i64 0, .int .i64 0]) (E := api_Inst_E) (F := no) (wf := wz) (xs := ([(⟨x_35, (selvageref15_bits.m a0 11 5), (selvageref15_bits.m a0 6 5), 0, (selvageref15_bits.m a0 16 5)⟩ : api_Inst), (⟨x_35, (selvageref15_bits.m a0 11 5), (selvageref15_bits.m a0 6 5), 0, wrap64 ((selvageref15_bits.m a0 16 5) + 32)⟩ : api_Inst)] : List api_Inst)) (cs := [.int .i64 x_35, .int .i64 (selvageref15_bits.m a0 11 5), .int .i64 (selvageref15_bits.m a0 6 5), .int .i64 0, .int .i64 (selvageref15_bits.m a0 16 5), .int .i64 x_35, .int .i64 (selvageref15_bits.m a0 11 5), .int .i64 (selvageref15_bits.m a0 6 5), .int .i64 0, .int .i64 (wrap64 ((selvageref15_bits.m a0 16 5) + 32))]) (vs := [(0, .agg #[.int .i64 x_35, .int .i64 (selvageref15_bits.m a0 11 5), .int .i64 (selvageref15_bits.m a0 6 5), .int .i64 0, .int .i64 (selvageref15_bits.m a0 16 5)]), (1, .agg #[.int .i64 x_35, .int .i64 (selvageref15_bits.m a0 11 5), .int .i64 (selvageref15_bits.m a0 6 5), .int .i64 0, .int .i64 (wrap64 ((selvageref15_bits.m a0 16 5) + 32))])]) hp_47 (.cons (tm rfl rfl) (.cons (tm rfl rfl) .nil)) Try.runUnderlying22 Try.sizeOf44 (by intro w_; kernel_rfl) rfl rfl rfl (Reps.cat.2 rfl) rfl rfl rfl rfl (fun A_74 c_75 w_76 X_77 hp_78 O_79 => ?_)
        refine sv (v := .slice A_74 ([(⟨x_35, (selvageref15_bits.m a0 11 5), (selvageref15_bits.m a0 6 5), 0, (selvageref15_bits.m a0 16 5)⟩ : api_Inst), (⟨x_35, (selvageref15_bits.m a0 11 5), (selvageref15_bits.m a0 6 5), 0, wrap64 ((selvageref15_bits.m a0 16 5) + 32)⟩ : api_Inst)] : List api_Inst).length c_75) rfl rfl rfl (e_assign (tm rfl rfl)) ?_
        refine k_nil ?_
        obtain rfl := Option.some.inj H
        exact ⟨_, A_74, c_75, X_77, seenF ⟨rfl, rfl, rfl, rfl, rfl, rfl, rfl, rfl, trivial⟩, hp_78, O_79⟩
       have H := iff_ h_73 H
       refine kq tb hp_47 [] [(62, .bool (decide (r_45 = 4)))] (by kernel_rfl) fun σ => ?_
       refine k_if (tm rfl rfl) (fun h_80 => ?_) (fun h_80 => ?_)
       ·have H := ift h_80 H
        refine k_region ?_
        refine sr tb hp_47 [] 5 [(68, .agg #[.int .i64 x_35, .int .i64 (selvageref15_bits.m a0 6 5), .int .i64 (selvageref15_bits.m a0 11 5), .int .i64 (selvageref15_bits.m a0 16 5), .int .i64 0])] (by kernel_rfl) fun σ => ?_
        refine s_buildC (zv := .agg #[.int .i64 0, .int .i64 0, .int .i64 0, .int .i64 0, .int .i64 0]) (E := api_Inst_E) (F := no) (wf := wz) (xs := ([(⟨x_35, (selvageref15_bits.m a0 6 5), (selvageref15_bits.m a0 11 5), (selvageref15_bits.m a0 16 5), 0⟩ : api_Inst)] : List api_Inst)) (cs := [.int .i64 x_35, .int .i64 (selvageref15_bits.m a0 6 5), .int .i64 (selvageref15_bits.m a0 11 5), .int .i64 (selvageref15_bits.m a0 16 5), .int .i64 0]) (vs := [(0, .agg #[.int .i64 x_35, .int .i64 (selvageref15_bits.m a0 6 5), .int .i64 (selvageref15_bits.m a0 11 5), .int .i64 (selvageref15_bits.m a0 16 5), .int .i64 0])]) hp_47 (.cons (tm rfl rfl) .nil) Try.runUnderlying22 Try.sizeOf44 (by intro w_; kernel_rfl) rfl rfl rfl (Reps.cat.2 rfl) rfl rfl rfl rfl (fun A_81 c_82 w_83 X_84 hp_85 O_86 => ?_)
        refine sv (v := .slice A_81 ([(⟨x_35, (selvageref15_bits.m a0 6 5), (selvageref15_bits.m a0 11 5), (selvageref15_bits.m a0 16 5), 0⟩ : api_Inst)] : List api_Inst).length c_82) rfl rfl rfl (e_assign (tm rfl rfl)) ?_
        refine k_nil ?_
        obtain rfl := Option.some.inj H
        exact ⟨_, A_81, c_82, X_84, seenF ⟨rfl, rfl, rfl, rfl, rfl, rfl, rfl, rfl, trivial⟩, hp_85, O_86⟩
       have H := iff_ h_80 H
       refine kq tb hp_47 [] [(70, .bool (decide (r_45 = 5)))] (by kernel_rfl) fun σ => ?_
       refine k_if (tm rfl rfl) (fun h_87 => ?_) (fun h_87 => ?_)
       ·have H := ift h_87 H
        refine k_region ?_
        refine sr tb hp_47 [] 4 [(72, .int .i64 x_35), (73, .int .i64 (selvageref15_bits.m a0 6 5)), (74, .int .i64 (selvageref15_bits.m a0 11 5)), (75, .int .u32 a0)] (by kernel_rfl) fun σ => ?_
        refine s_call (.cons (tm rfl rfl) (.cons rfl (.cons rfl .nil))) Try.call52 (selvageref15_bits.calls a0 16 14 _) rfl ?_
        rintro v_ w_91 ⟨rfl, af_94⟩
        have hp_92 := Hp.callA af_94 hp_47
        refine s_call (.cons (tm rfl rfl) (.cons rfl .nil)) Try.call53 (selvageref15_signed.calls (selvageref15_bits.m a0 16 14) 14 _) rfl ?_
        rintro v_ w_98 ⟨rfl, af_101⟩
        have hp_99 := Hp.callA af_101 hp_92
        refine sr tb hp_99 [] 2 [(79, .agg #[.int .i64 x_35, .int .i64 (selvageref15_bits.m a0 6 5), .int .i64 (selvageref15_bits.m a0 11 5), .int .i64 0, .int .i64 (wrap64 (4 * (selvageref15_signed.m (selvageref15_bits.m a0 16 14) 14)))])] (by kernel_rfl) fun σ => ?_
        refine s_buildC (zv := .agg #[.int .i64 0, .int .i64 0, .int .i64 0, .int .i64 0, .int .i64 0]) (E := api_Inst_E) (F := no) (wf := wz) (xs := ([(⟨x_35, (selvageref15_bits.m a0 6 5), (selvageref15_bits.m a0 11 5), 0, wrap64 (4 * (selvageref15_signed.m (selvageref15_bits.m a0 16 14) 14))⟩ : api_Inst)] : List api_Inst)) (cs := [.int .i64 x_35, .int .i64 (selvageref15_bits.m a0 6 5), .int .i64 (selvageref15_bits.m a0 11 5), .int .i64 0, .int .i64 (wrap64 (4 * (selvageref15_signed.m (selvageref15_bits.m a0 16 14) 14)))]) (vs := [(0, .agg #[.int .i64 x_35, .int .i64 (selvageref15_bits.m a0 6 5), .int .i64 (selvageref15_bits.m a0 11 5), .int .i64 0, .int .i64 (wrap64 (4 * (selvageref15_signed.m (selvageref15_bits.m a0 16 14) 14)))])]) hp_99 (.cons (tm rfl rfl) .nil) Try.runUnderlying22 Try.sizeOf44 (by intro w_; kernel_rfl) rfl rfl rfl (Reps.cat.2 rfl) rfl rfl rfl rfl (fun A_102 c_103 w_104 X_105 hp_106 O_107 => ?_)
        refine sv (v := .slice A_102 ([(⟨x_35, (selvageref15_bits.m a0 6 5), (selvageref15_bits.m a0 11 5), 0, wrap64 (4 * (selvageref15_signed.m (selvageref15_bits.m a0 16 14) 14))⟩ : api_Inst)] : List api_Inst).length c_103) rfl rfl rfl (e_assign (tm rfl rfl)) ?_
        refine k_nil ?_
        obtain rfl := Option.some.inj H
        exact ⟨_, A_102, c_103, X_105, seenF ⟨rfl, rfl, rfl, rfl, rfl, rfl, rfl, rfl, trivial⟩, hp_106, O_107⟩
       have H := iff_ h_87 H
       refine kq tb hp_47 [] [(81, .bool (decide (r_45 = 6)))] (by kernel_rfl) fun σ => ?_
       refine k_if (tm rfl rfl) (fun h_108 => ?_) (fun h_108 => ?_)
       ·have H := ift h_108 H
        refine k_region ?_
        refine sr tb hp_47 [] 4 [(86, .agg #[.int .i64 x_35, .int .i64 0, .int .i64 (selvageref15_bits.m a0 11 5), .int .i64 (selvageref15_bits.m a0 16 5), .int .i64 0])] (by kernel_rfl) fun σ => ?_
        refine s_buildC (zv := .agg #[.int .i64 0, .int .i64 0, .int .i64 0, .int .i64 0, .int .i64 0]) (E := api_Inst_E) (F := no) (wf := wz) (xs := ([(⟨x_35, 0, (selvageref15_bits.m a0 11 5), (selvageref15_bits.m a0 16 5), 0⟩ : api_Inst)] : List api_Inst)) (cs := [.int .i64 x_35, .int .i64 0, .int .i64 (selvageref15_bits.m a0 11 5), .int .i64 (selvageref15_bits.m a0 16 5), .int .i64 0]) (vs := [(0, .agg #[.int .i64 x_35, .int .i64 0, .int .i64 (selvageref15_bits.m a0 11 5), .int .i64 (selvageref15_bits.m a0 16 5), .int .i64 0])]) hp_47 (.cons (tm rfl rfl) .nil) Try.runUnderlying22 Try.sizeOf44 (by intro w_; kernel_rfl) rfl rfl rfl (Reps.cat.2 rfl) rfl rfl rfl rfl (fun A_109 c_110 w_111 X_112 hp_113 O_114 => ?_)
        refine sv (v := .slice A_109 ([(⟨x_35, 0, (selvageref15_bits.m a0 11 5), (selvageref15_bits.m a0 16 5), 0⟩ : api_Inst)] : List api_Inst).length c_110) rfl rfl rfl (e_assign (tm rfl rfl)) ?_
        refine k_nil ?_
        obtain rfl := Option.some.inj H
        exact ⟨_, A_109, c_110, X_112, seenF ⟨rfl, rfl, rfl, rfl, rfl, rfl, rfl, rfl, trivial⟩, hp_113, O_114⟩
       have H := iff_ h_108 H
       refine kq tb hp_47 [] [(88, .bool (decide (r_45 = 7)))] (by kernel_rfl) fun σ => ?_
       refine k_if (tm rfl rfl) (fun h_115 => ?_) (fun h_115 => ?_)
       ·have H := ift h_115 H
        refine k_region ?_
        refine sr tb hp_47 [] 3 [(90, .int .i64 x_35), (91, .int .i64 (selvageref15_bits.m a0 11 5)), (92, .int .i64 (selvageref15_bits.m a0 16 16))] (by kernel_rfl) fun σ => ?_
        refine s_call (.cons (tm rfl rfl) (.cons rfl .nil)) Try.call53 (selvageref15_signed.calls (selvageref15_bits.m a0 16 16) 16 _) rfl ?_
        rintro v_ w_119 ⟨rfl, af_122⟩
        have hp_120 := Hp.callA af_122 hp_47
        refine sv (v := .agg #[.int .i64 x_35, .int .i64 0, .int .i64 (selvageref15_bits.m a0 11 5), .int .i64 0, .int .i64 (selvageref15_signed.m (selvageref15_bits.m a0 16 16) 16)]) rfl rfl rfl (e_build (vs := [(0, .int .i64 x_35), (2, .int .i64 (selvageref15_bits.m a0 11 5)), (4, .int .i64 (selvageref15_signed.m (selvageref15_bits.m a0 16 16) 16))]) (cs := [.int .i64 x_35, .int .i64 0, .int .i64 (selvageref15_bits.m a0 11 5), .int .i64 0, .int .i64 (selvageref15_signed.m (selvageref15_bits.m a0 16 16) 16)]) (.cons (tm rfl rfl) (.cons (tm rfl rfl) (.cons (tm rfl rfl) .nil))) (by kernel_rfl)) ?_
        refine s_buildC (zv := .agg #[.int .i64 0, .int .i64 0, .int .i64 0, .int .i64 0, .int .i64 0]) (E := api_Inst_E) (F := no) (wf := wz) (xs := ([(⟨x_35, 0, (selvageref15_bits.m a0 11 5), 0, (selvageref15_signed.m (selvageref15_bits.m a0 16 16) 16)⟩ : api_Inst)] : List api_Inst)) (cs := [.int .i64 x_35, .int .i64 0, .int .i64 (selvageref15_bits.m a0 11 5), .int .i64 0, .int .i64 (selvageref15_signed.m (selvageref15_bits.m a0 16 16) 16)]) (vs := [(0, .agg #[.int .i64 x_35, .int .i64 0, .int .i64 (selvageref15_bits.m a0 11 5), .int .i64 0, .int .i64 (selvageref15_signed.m (selvageref15_bits.m a0 16 16) 16)])]) hp_120 (.cons (tm rfl rfl) .nil) Try.runUnderlying22 Try.sizeOf44 (by intro w_; kernel_rfl) rfl rfl rfl (Reps.cat.2 rfl) rfl rfl rfl rfl (fun A_123 c_124 w_125 X_126 hp_127 O_128 => ?_)
        refine sv (v := .slice A_123 ([(⟨x_35, 0, (selvageref15_bits.m a0 11 5), 0, (selvageref15_signed.m (selvageref15_bits.m a0 16 16) 16)⟩ : api_Inst)] : List api_Inst).length c_124) rfl rfl rfl (e_assign (tm rfl rfl)) ?_
        refine k_nil ?_
        obtain rfl := Option.some.inj H
        exact ⟨_, A_123, c_124, X_126, seenF ⟨rfl, rfl, rfl, rfl, rfl, rfl, rfl, rfl, trivial⟩, hp_127, O_128⟩
       have H := iff_ h_115 H
       refine kq tb hp_47 [] [(96, .bool (decide (r_45 = 8)))] (by kernel_rfl) fun σ => ?_
       refine k_if (tm rfl rfl) (fun h_129 => ?_) (fun h_129 => ?_)
       ·as_aux_lemma =>
         have H := ift h_129 H
         refine kq tb hp_47 [] [(10, .int .i64 0)] (by kernel_rfl) fun σ => ?_
         obtain ⟨o_130, H, G_131⟩ := bindSome H
         refine k_cut (fun a w' => ∃ (σ_180 : Nat → Value) (A_184 : Option Addr) (c_187 : Nat) (X_185 : Rsc), a = st 147 [(0, .int .u32 a0), (2, .pointer (some ⟨b_1, 0, none⟩)), (4, .int .i64 (selvageref15_bits.m a0 6 5)), (5, .int .i64 (selvageref15_bits.m a0 11 5)), (6, .int .i64 (selvageref15_bits.m a0 16 5)), (7, .int .i64 (selvageref15_bits.m a0 16 16)), (8, .int .i64 x_35), (9, .slice A_184 o_130.length c_187)] σ_180 [] ∧ Hp (On []) no w w w' [[(b_1, .cells #[.int .i64 0, .int .i64 0, .int .i64 0, .int .i64 0, .int .i64 0] 44 (0, 0))], X_185] ∧ Own api_Inst_E no wz 44 A_184 c_187 o_130 X_185) ?_ ?_
         ·as_aux_lemma =>
           refine k_block ?_
           refine k_lp (fun (x_132 : (List api_Inst) × Int) a w' => ∃ (σ_171 : Nat → Value) (A_175 : Option Addr) (c_178 : Nat) (X_176 : Rsc), a = st 147 [(0, .int .u32 a0), (2, .pointer (some ⟨b_1, 0, none⟩)), (4, .int .i64 (selvageref15_bits.m a0 6 5)), (5, .int .i64 (selvageref15_bits.m a0 11 5)), (6, .int .i64 (selvageref15_bits.m a0 16 5)), (7, .int .i64 (selvageref15_bits.m a0 16 16)), (8, .int .i64 x_35), (9, .slice A_175 x_132.1.length c_178), (10, .int .i64 x_132.2)] σ_171 [] ∧ Hp (On []) no w w w' [[(b_1, .cells #[.int .i64 0, .int .i64 0, .int .i64 0, .int .i64 0, .int .i64 0] 44 (0, 0))], X_176] ∧ Own api_Inst_E no wz 44 A_175 c_178 x_132.1 X_176) H ⟨_, none, 0, [], seenF ⟨rfl, rfl, rfl, rfl, rfl, rfl, rfl, rfl, rfl, trivial⟩, hp_47.pick [0, 1] (by decide) rfl, Own.nil _ _ _ _⟩ ?_
           clear H
           rintro x_132 a w' z_ ⟨σ_135, A_139, c_142, X_140, rfl, hp_136, O_141⟩ H hz_133
           unfold selvageref15_Decode.l1 at H
           refine k_seq ?_
           refine kq tb hp_136 [] [(99, .bool (decide (x_132.2 < 4)))] (by kernel_rfl) fun σ => ?_
           refine k_if (tm rfl rfl) (fun h_143 => ?_) (fun h_143 => ?_)
           ·have H := ift h_143 H
            refine k_skip ?_
            refine k_seq ?_
            refine k_block ?_
            refine k_region ?_
            refine sr tb hp_136 [] 4 [(102, .slice A_139 x_132.1.length c_142), (103, .int .i64 x_35), (104, .int .i64 x_132.2), (105, .int .u32 a0)] (by kernel_rfl) fun σ => ?_
            refine s_call (.cons (tm rfl rfl) (.cons rfl (.cons rfl .nil))) Try.call52 (selvageref15_bits.calls a0 16 14 _) rfl ?_
            rintro v_ w_147 ⟨rfl, af_150⟩
            have hp_148 := Hp.callA af_150 hp_136
            refine s_call (.cons (tm rfl rfl) (.cons rfl .nil)) Try.call53 (selvageref15_signed.calls (selvageref15_bits.m a0 16 14) 14 _) rfl ?_
            rintro v_ w_154 ⟨rfl, af_157⟩
            have hp_155 := Hp.callA af_157 hp_148
            refine sr tb hp_155 [] 2 [(109, .agg #[.int .i64 x_35, .int .i64 x_132.2, .int .i64 0, .int .i64 0, .int .i64 (wrap64 (4 * (selvageref15_signed.m (selvageref15_bits.m a0 16 14) 14)))])] (by kernel_rfl) fun σ => ?_
            refine s_buildC (zv := .agg #[.int .i64 0, .int .i64 0, .int .i64 0, .int .i64 0, .int .i64 0]) (E := api_Inst_E) (F := no) (wf := wz) (xs := ([(⟨x_35, x_132.2, 0, 0, wrap64 (4 * (selvageref15_signed.m (selvageref15_bits.m a0 16 14) 14))⟩ : api_Inst)] : List api_Inst)) (cs := [.int .i64 x_35, .int .i64 x_132.2, .int .i64 0, .int .i64 0, .int .i64 (wrap64 (4 * (selvageref15_signed.m (selvageref15_bits.m a0 16 14) 14)))]) (vs := [(0, .agg #[.int .i64 x_35, .int .i64 x_132.2, .int .i64 0, .int .i64 0, .int .i64 (wrap64 (4 * (selvageref15_signed.m (selvageref15_bits.m a0 16 14) 14)))])]) hp_155 (.cons (tm rfl rfl) .nil) Try.runUnderlying22 Try.sizeOf44 (by intro w_; kernel_rfl) rfl rfl rfl (Reps.cat.2 rfl) rfl rfl rfl rfl (fun A_158 c_159 w_160 X_161 hp_162 O_163 => ?_)
            obtain ⟨g_164, H⟩ := grd H
            refine s_append (E := api_Inst_E) (F := no) (wf := wz) (xs := x_132.1) (ys := ([(⟨x_35, x_132.2, 0, 0, wrap64 (4 * (selvageref15_signed.m (selvageref15_bits.m a0 16 14) 14))⟩ : api_Inst)] : List api_Inst)) (r := 1) hp_162 (tm rfl rfl) (tm rfl rfl) Try.underlying22 rfl rfl rfl rfl rfl rfl rfl O_141 (Own.src O_163 hp_162 (i := 2) rfl) g_164 rfl (fun A_165 c_166 w_167 X_168 hp_169 O_170 => ?_)
            refine sv (v := .slice A_165 (x_132.1 ++ ([(⟨x_35, x_132.2, 0, 0, wrap64 (4 * (selvageref15_signed.m (selvageref15_bits.m a0 16 14) 14))⟩ : api_Inst)] : List api_Inst)).length c_166) rfl rfl rfl (e_assign (tm rfl rfl)) ?_
            refine k_nil ?_
            refine kr tb hp_169 [] [(10, .int .i64 (wrap64 (x_132.2 + 1)))] (by kernel_rfl) fun σ => ?_
            obtain rfl := Option.some.inj H
            exact ⟨_, rfl, ⟨_, A_165, c_166, X_168, seenF ⟨rfl, rfl, rfl, rfl, rfl, rfl, rfl, rfl, rfl, trivial⟩, hp_169.pick [0, 1] (by decide) rfl, O_170⟩⟩
           have H := iff_ h_143 H
           refine k_exit ?_
           refine q_here ?_
           obtain ⟨v_, H', hv_⟩ := mapSome H
           have hv_ := hz_133 _ hv_
           subst hv_
           have H := H'
           clear H'
           obtain rfl := Option.some.inj H
           exact ⟨_, A_139, c_142, X_140, seenF ⟨rfl, rfl, rfl, rfl, rfl, rfl, rfl, rfl, trivial⟩, hp_136, O_141⟩
         clear H
         rintro a w' ⟨σ_171, A_175, c_178, X_176, rfl, hp_172, O_177⟩
         have H := G_131
         obtain rfl := Option.some.inj H
         exact ⟨_, A_175, c_178, X_176, seenF ⟨rfl, rfl, rfl, rfl, rfl, rfl, rfl, rfl, trivial⟩, hp_172, O_177⟩
       have H := iff_ h_129 H
       refine kq tb hp_47 [] [(112, .bool (decide (r_45 = 9)))] (by kernel_rfl) fun σ => ?_
       refine k_if (tm rfl rfl) (fun h_180 => ?_) (fun h_180 => ?_)
       ·have H := ift h_180 H
        refine k_region ?_
        refine sr tb hp_47 [] 2 [(114, .int .i64 x_35), (115, .int .u32 a0)] (by kernel_rfl) fun σ => ?_
        refine s_call (.cons (tm rfl rfl) (.cons rfl (.cons rfl .nil))) Try.call52 (selvageref15_bits.calls a0 6 24 _) rfl ?_
        rintro v_ w_184 ⟨rfl, af_187⟩
        have hp_185 := Hp.callA af_187 hp_47
        refine s_call (.cons (tm rfl rfl) (.cons rfl .nil)) Try.call53 (selvageref15_signed.calls (selvageref15_bits.m a0 6 24) 24 _) rfl ?_
        rintro v_ w_191 ⟨rfl, af_194⟩
        have hp_192 := Hp.callA af_194 hp_185
        refine sr tb hp_192 [] 2 [(119, .agg #[.int .i64 x_35, .int .i64 0, .int .i64 0, .int .i64 0, .int .i64 (wrap64 (4 * (selvageref15_signed.m (selvageref15_bits.m a0 6 24) 24)))])] (by kernel_rfl) fun σ => ?_
        refine s_buildC (zv := .agg #[.int .i64 0, .int .i64 0, .int .i64 0, .int .i64 0, .int .i64 0]) (E := api_Inst_E) (F := no) (wf := wz) (xs := ([(⟨x_35, 0, 0, 0, wrap64 (4 * (selvageref15_signed.m (selvageref15_bits.m a0 6 24) 24))⟩ : api_Inst)] : List api_Inst)) (cs := [.int .i64 x_35, .int .i64 0, .int .i64 0, .int .i64 0, .int .i64 (wrap64 (4 * (selvageref15_signed.m (selvageref15_bits.m a0 6 24) 24)))]) (vs := [(0, .agg #[.int .i64 x_35, .int .i64 0, .int .i64 0, .int .i64 0, .int .i64 (wrap64 (4 * (selvageref15_signed.m (selvageref15_bits.m a0 6 24) 24)))])]) hp_192 (.cons (tm rfl rfl) .nil) Try.runUnderlying22 Try.sizeOf44 (by intro w_; kernel_rfl) rfl rfl rfl (Reps.cat.2 rfl) rfl rfl rfl rfl (fun A_195 c_196 w_197 X_198 hp_199 O_200 => ?_)
        refine sv (v := .slice A_195 ([(⟨x_35, 0, 0, 0, wrap64 (4 * (selvageref15_signed.m (selvageref15_bits.m a0 6 24) 24))⟩ : api_Inst)] : List api_Inst).length c_196) rfl rfl rfl (e_assign (tm rfl rfl)) ?_
        refine k_nil ?_
        obtain rfl := Option.some.inj H
        exact ⟨_, A_195, c_196, X_198, seenF ⟨rfl, rfl, rfl, rfl, rfl, rfl, rfl, rfl, trivial⟩, hp_199, O_200⟩
       have H := iff_ h_180 H
       refine k_region ?_
       refine sr tb hp_47 [] 2 [(29, .agg #[.int .i64 x_35, .int .i64 0, .int .i64 0, .int .i64 0, .int .i64 0])] (by kernel_rfl) fun σ => ?_
       refine s_buildC (zv := .agg #[.int .i64 0, .int .i64 0, .int .i64 0, .int .i64 0, .int .i64 0]) (E := api_Inst_E) (F := no) (wf := wz) (xs := ([(⟨x_35, 0, 0, 0, 0⟩ : api_Inst)] : List api_Inst)) (cs := [.int .i64 x_35, .int .i64 0, .int .i64 0, .int .i64 0, .int .i64 0]) (vs := [(0, .agg #[.int .i64 x_35, .int .i64 0, .int .i64 0, .int .i64 0, .int .i64 0])]) hp_47 (.cons (tm rfl rfl) .nil) Try.runUnderlying22 Try.sizeOf44 (by intro w_; kernel_rfl) rfl rfl rfl (Reps.cat.2 rfl) rfl rfl rfl rfl (fun A_201 c_202 w_203 X_204 hp_205 O_206 => ?_)
       refine sv (v := .slice A_201 ([(⟨x_35, 0, 0, 0, 0⟩ : api_Inst)] : List api_Inst).length c_202) rfl rfl rfl (e_assign (tm rfl rfl)) ?_
       refine k_nil ?_
       obtain rfl := Option.some.inj H
       exact ⟨_, A_201, c_202, X_204, seenF ⟨rfl, rfl, rfl, rfl, rfl, rfl, rfl, rfl, trivial⟩, hp_205, O_206⟩
     clear H
     rintro a w' ⟨σ_207, A_211, c_214, X_212, rfl, hp_208, O_213⟩
     have H := G_51
     refine kq tb hp_208 [] [(11, .int .i64 0)] (by kernel_rfl) fun σ => ?_
     obtain ⟨o_215, H, G_216⟩ := bindSome H
     refine k_cut (fun a w' => ∃ (s_217 : Unit) (σ_252 : Nat → Value), o_215 = Sum.inl s_217 ∧ a = st 147 [(0, .int .u32 a0), (2, .pointer (some ⟨b_1, 0, none⟩)), (4, .int .i64 (selvageref15_bits.m a0 6 5)), (5, .int .i64 (selvageref15_bits.m a0 11 5)), (6, .int .i64 (selvageref15_bits.m a0 16 5)), (7, .int .i64 (selvageref15_bits.m a0 16 16)), (8, .int .i64 x_35)] σ_252 [] ∧ Hp (On []) no w w w' [[(b_1, .cells #[.int .i64 0, .int .i64 0, .int .i64 0, .int .i64 0, .int .i64 0] 44 (0, 0))]]) ?_ ?_
     ·as_aux_lemma =>
       refine k_block ?_
       refine k_lp (fun (x_218 : Int) a w' => ∃ (σ_247 : Nat → Value), a = st 147 [(0, .int .u32 a0), (2, .pointer (some ⟨b_1, 0, none⟩)), (4, .int .i64 (selvageref15_bits.m a0 6 5)), (5, .int .i64 (selvageref15_bits.m a0 11 5)), (6, .int .i64 (selvageref15_bits.m a0 16 5)), (7, .int .i64 (selvageref15_bits.m a0 16 16)), (8, .int .i64 x_35), (9, .slice A_211 o_50.length c_214), (11, .int .i64 x_218)] σ_247 [] ∧ Hp (On []) no w w w' [[(b_1, .cells #[.int .i64 0, .int .i64 0, .int .i64 0, .int .i64 0, .int .i64 0] 44 (0, 0))], X_212]) H ⟨_, seenF ⟨rfl, rfl, rfl, rfl, rfl, rfl, rfl, rfl, rfl, trivial⟩, hp_208⟩ ?_
       clear H
       rintro x_218 a w' z_ ⟨σ_221, rfl, hp_222⟩ H hz_219
       unfold selvageref15_Decode.l2 at H
       refine k_seq ?_
       refine kq tb hp_222 [] [(124, .bool (decide (x_218 < (o_50.length : Int))))] (by kernel_rfl) fun σ => ?_
       refine k_if (tm rfl rfl) (fun h_225 => ?_) (fun h_225 => ?_)
       ·as_aux_lemma =>
         have H := ift h_225 H
         refine k_skip ?_
         refine k_seq ?_
         refine k_block ?_
         refine k_seq ?_
         refine k_region ?_
         obtain ⟨g_226, H⟩ := grd H
         obtain ⟨g_231, cs_228, pl_229, q_230, rp_227⟩ := ow_idx O_213 g_226
         obtain rfl : cs_228 = [.int .i64 ((gi o_50 x_218).Op), .int .i64 ((gi o_50 x_218).T), .int .i64 ((gi o_50 x_218).A), .int .i64 ((gi o_50 x_218).B), .int .i64 ((gi o_50 x_218).Imm)] := rp_227
         refine srx tb hp_222 [⟨_, _, (hp_222.oa q_230 (i := 1) rfl)⟩] [.s 130 2 _ _ c_214 _ 5 _ (ow_pl pl_229) g_226] [] [] [] 4 [(131, .agg #[.int .i64 ((gi o_50 x_218).Op), .int .i64 ((gi o_50 x_218).T), .int .i64 ((gi o_50 x_218).A), .int .i64 ((gi o_50 x_218).B), .int .i64 ((gi o_50 x_218).Imm)])] (by kernel_rfl) fun σ => ?_
         obtain ⟨r_234, hx_233, H⟩ := bindSome H
         refine s_call (.cons (tm rfl rfl) .nil) Try.call21 (selvageref15_Encode.calls (⟨(gi o_50 x_218).Op, (gi o_50 x_218).T, (gi o_50 x_218).A, (gi o_50 x_218).B, (gi o_50 x_218).Imm⟩ : api_Inst) r_234 _ hx_233) rfl ?_
         rintro v_ w_235 ⟨rfl, af_238⟩
         have hp_236 := Hp.callA af_238 hp_222
         refine sv (v := .tuple #[.int .u32 r_234.1, .int .i64 r_234.2]) rfl rfl rfl (e_move (tm rfl rfl)) ?_
         refine sr tb hp_236 [] 4 [(12, .int .u32 r_234.1), (13, .int .i64 r_234.2)] (by kernel_rfl) fun σ => ?_
         refine k_nil ?_
         refine kq tb hp_236 [] [(138, bif (decide (r_234.2 = 0)) then (.int .u32 r_234.1) else undef), (139, bif (decide (r_234.2 = 0)) then (.int .u32 a0) else undef), (140, bif (decide (r_234.2 = 0)) then (.bool (decide (r_234.1 = a0))) else undef), (141, .bool ((decide (r_234.2 = 0)) && (decide (r_234.1 = a0))))] (by kernel_rfl) fun σ => ?_
         refine k_if (tm rfl rfl) (fun h_239 => ?_) (fun h_239 => ?_)
         ·as_aux_lemma =>
           have H := ift h_239 H
           refine k_seq ?_
           refine k_region ?_
           obtain ⟨g_244, cs_241, pl_242, q_243, rp_240⟩ := ow_idx O_213 g_226
           obtain rfl : cs_241 = [.int .i64 ((gi o_50 x_218).Op), .int .i64 ((gi o_50 x_218).T), .int .i64 ((gi o_50 x_218).A), .int .i64 ((gi o_50 x_218).B), .int .i64 ((gi o_50 x_218).Imm)] := rp_240
           refine srx tb hp_236 [⟨_, _, (hp_236.oa q_243 (i := 1) rfl)⟩] [.s 144 2 _ _ c_214 _ 5 _ (ow_pl pl_242) g_226] [] [] [] 4 [(145, .agg #[.int .i64 ((gi o_50 x_218).Op), .int .i64 ((gi o_50 x_218).T), .int .i64 ((gi o_50 x_218).A), .int .i64 ((gi o_50 x_218).B), .int .i64 ((gi o_50 x_218).Imm)])] (by kernel_rfl) fun σ => ?_
           refine s_store (i := 0) (j := 0) (vs := [.int .i64 ((gi o_50 x_218).Op), .int .i64 ((gi o_50 x_218).T), .int .i64 ((gi o_50 x_218).A), .int .i64 ((gi o_50 x_218).B), .int .i64 ((gi o_50 x_218).Imm)]) (l' := [.int .i64 ((gi o_50 x_218).Op), .int .i64 ((gi o_50 x_218).T), .int .i64 ((gi o_50 x_218).A), .int .i64 ((gi o_50 x_218).B), .int .i64 ((gi o_50 x_218).Imm)]) hp_236 (tm rfl rfl) (tm rfl rfl) rfl Try.sizeOf44 rfl rfl rfl rfl rfl rfl (fun w_245 hp_246 => ?_)
           refine sv (v := .int .i64 0) rfl rfl rfl (e_assign rfl) ?_
           refine k_nil ?_
           refine k_ret ?_
           refine q_ret ?_
           refine q_ret ?_
           refine q_ret ?_
           refine q_ret ?_
           obtain ⟨v_, H', hv_⟩ := mapSome H
           have hv_ := hz_219 _ hv_
           subst hv_
           have H := H'
           clear H'
           obtain ⟨v_, H', hv_⟩ := mapSome H
           subst hv_
           have H := H'.trans (show some v_ = _ from G_216)
           obtain ⟨v_, H', hv_⟩ := mapSome H
           have hv_ := hz_36 _ hv_
           subst hv_
           have H := H'
           clear H'
           obtain ⟨v_, H', hv_⟩ := mapSome H
           subst hv_
           have H := H'.trans (show some v_ = _ from G_33)
           obtain rfl := Option.some.inj H
           exact k_end rfl (.cell rfl rfl (r_loadA Try.isAgg44 Try.sizeOf44 rfl (cells_box (sz := 5) (hp_246.get (i := 0) (j := 0) rfl rfl) rfl)) (.tmp rfl rfl .nil)) rfl ⟨rfl, (hp_246.pick [] (by decide) rfl).aft⟩
         have H := iff_ h_239 H
         refine k_skip ?_
         refine kr tb hp_236 [] [(11, .int .i64 (wrap64 (x_218 + 1)))] (by kernel_rfl) fun σ => ?_
         obtain rfl := Option.some.inj H
         exact ⟨_, rfl, ⟨_, seenF ⟨rfl, rfl, rfl, rfl, rfl, rfl, rfl, rfl, rfl, trivial⟩, hp_236⟩⟩
       have H := iff_ h_225 H
       refine k_exit ?_
       refine q_here ?_
       obtain ⟨v_, H', hv_⟩ := mapSome H
       have hv_ := hz_219 _ hv_
       subst hv_
       have H := H'
       clear H'
       obtain rfl := Option.some.inj H
       exact ⟨(), _, rfl, seenF ⟨rfl, rfl, rfl, rfl, rfl, rfl, rfl, trivial⟩, hp_222.pick [0] (by decide) rfl⟩
     clear H
     rintro a w' ⟨s_217, σ_247, rfl, rfl, hp_248⟩
     have H := G_216
     refine kr tb hp_248 [] [(8, .int .i64 (wrap64 (x_35 + 1)))] (by kernel_rfl) fun σ => ?_
     obtain rfl := Option.some.inj H
     exact ⟨_, rfl, ⟨_, seenF ⟨rfl, rfl, rfl, rfl, rfl, rfl, rfl, trivial⟩, hp_248⟩⟩
   have H := iff_ h_42 H
   refine k_exit ?_
   refine q_here ?_
   obtain ⟨v_, H', hv_⟩ := mapSome H
   have hv_ := hz_36 _ hv_
   subst hv_
   have H := H'
   clear H'
   obtain rfl := Option.some.inj H
   exact ⟨(), _, rfl, seenF ⟨rfl, trivial⟩, hp_39⟩
 clear H
 rintro a w' ⟨s_34, σ_253, rfl, rfl, hp_254⟩
 have H := G_33
 refine k_seq ?_
 refine k_region ?_
 refine sv (v := .agg #[.int .i64 0, .int .i64 0, .int .i64 0, .int .i64 0, .int .i64 0]) rfl rfl rfl (e_build (vs := []) (cs := [.int .i64 0, .int .i64 0, .int .i64 0, .int .i64 0, .int .i64 0]) .nil (by kernel_rfl)) ?_
 refine s_store (i := 0) (j := 0) (vs := [.int .i64 0, .int .i64 0, .int .i64 0, .int .i64 0, .int .i64 0]) (l' := [.int .i64 0, .int .i64 0, .int .i64 0, .int .i64 0, .int .i64 0]) hp_254 (tm rfl rfl) (tm rfl rfl) rfl Try.sizeOf44 rfl rfl rfl rfl rfl rfl (fun w_257 hp_258 => ?_)
 refine sv (v := .int .i64 3) rfl rfl rfl (e_assign rfl) ?_
 refine k_nil ?_
 refine k_ret ?_
 obtain rfl := Option.some.inj H
 exact k_end rfl (.cell rfl rfl (r_loadA Try.isAgg44 Try.sizeOf44 rfl (cells_box (sz := 5) (hp_258.get (i := 0) (j := 0) rfl rfl) rfl)) (.tmp rfl rfl .nil)) rfl ⟨rfl, (hp_258.pick [] (by decide) rfl).aft⟩

end Go.Proofs.Ytcnchjlomcafeaa.W

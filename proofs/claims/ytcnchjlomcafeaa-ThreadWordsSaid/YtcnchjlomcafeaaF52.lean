/- Functions of the program as plain Lean functions, and that the calls do what they say: written by w2.py. -/
import Derived.Test.YtcnchjlomcafeaaRun
import Derived.Test.YtcnchjlomcafeaaTy
import Derived.Test.YtcnchjlomcafeaaG0
set_option linter.unusedVariables false
set_option linter.unusedSimpArgs false
set_option linter.unusedSectionVars false
namespace Go.Proofs.Ytcnchjlomcafeaa.W
open Go Go.RowKit Go.Proofs.Ytcnchjlomcafeaa.B
attribute [local irreducible] Go.wpList Go.Code.wp Go.Region.wanted Go.yielded
/-! ### selvage/isa.Decode: function 30 -/
def isa_Decode.l1 (a0 : Int) (x_83 : Int) : Option (Int ⊕ Int) :=
 (if (decide (x_83 < 3)) = true then (some (!decide ((isa_cond.m x_83) = (bits .and .u32 a0 67043328)))) else (some false) : Option Bool).bind fun o_90 => if o_90 = true then (some (Sum.inl (wrap64 (x_83 + 1)))) else ((some x_83).map Sum.inr)
def isa_Decode.l0 (a0 : Int) (x_7 : Int) : Option (Int ⊕ (Unit ⊕ (api_Inst × Int))) :=
 if (decide (x_7 ≤ 23)) = true then ((if (!decide (((bits .xor .u32 a0 ((isa_formOf.m x_7).2)) / 67108864) = 0)) = true then (some (Sum.inl ())) else ((if (decide (((isa_formOf.m x_7).1) = 1)) = true then (some (⟨x_7, wrap64 (bits .and .u32 (a0 / 2097152) 31), wrap64 (bits .and .u32 (a0 / 65536) 31), 0, wrap64 (wrap16 (a0))⟩ : api_Inst)) else (if (decide (((isa_formOf.m x_7).1) = 2)) = true then (some (⟨x_7, wrap64 (bits .and .u32 (a0 / 65536) 31), wrap64 (bits .and .u32 (a0 / 2097152) 31), 0, wrap64 (bits .and .u32 a0 65535)⟩ : api_Inst)) else (if (decide (((isa_formOf.m x_7).1) = 3)) = true then (some (⟨x_7, wrap64 (bits .and .u32 (a0 / 65536) 31), wrap64 (bits .and .u32 (a0 / 2097152) 31), 0, wrap64 (bits .or .u32 (bits .and .u32 (a0 / 2048) 31) (((bits .and .u32 (a0 / 2) 1) * 32) % 4294967296))⟩ : api_Inst)) else (if (decide (((isa_formOf.m x_7).1) = 4)) = true then (some (⟨x_7, wrap64 (bits .and .u32 (a0 / 2097152) 31), wrap64 (bits .and .u32 (a0 / 65536) 31), wrap64 (bits .and .u32 (a0 / 2048) 31), 0⟩ : api_Inst)) else (if (decide (((isa_formOf.m x_7).1) = 5)) = true then (some (⟨x_7, wrap64 (bits .and .u32 (a0 / 2097152) 31), wrap64 (bits .and .u32 (a0 / 65536) 31), 0, wrap64 (wrap16 (bits .and .u32 a0 65532))⟩ : api_Inst)) else (if (decide (((isa_formOf.m x_7).1) = 6)) = true then (some (⟨x_7, 0, wrap64 (bits .and .u32 (a0 / 65536) 31), wrap64 (bits .and .u32 (a0 / 2048) 31), 0⟩ : api_Inst)) else (if (decide (((isa_formOf.m x_7).1) = 7)) = true then (some (⟨x_7, 0, wrap64 (bits .and .u32 (a0 / 65536) 31), 0, wrap64 (wrap16 (a0))⟩ : api_Inst)) else (if (decide (((isa_formOf.m x_7).1) = 8)) = true then ((loop (isa_Decode.l1 a0) 0 : Option Int).bind fun o_81 => some (⟨x_7, o_81, 0, 0, wrap64 (wrap16 (bits .and .u32 a0 65532))⟩ : api_Inst)) else (if (decide (((isa_formOf.m x_7).1) = 9)) = true then (some (⟨x_7, 0, 0, 0, wrap64 ((wrap32 (((bits .and .u32 a0 67108860) * 64) % 4294967296)) / 64)⟩ : api_Inst)) else (some (⟨x_7, 0, 0, 0, 0⟩ : api_Inst)))))))))) : Option api_Inst).bind fun o_31 => (isa_Encode.m o_31).bind fun r_122 => (if ((decide (r_122.2 = 0)) && (decide (r_122.1 = a0))) = true then ((((some (o_31, 0)).map Sum.inr).map Sum.inr).map Sum.inr) else (some (Sum.inl ())))) : Option (Unit ⊕ (Int ⊕ (Unit ⊕ (api_Inst × Int))))).bind fun o_15 => match o_15 with | .inl s_17 => (some (Sum.inl (wrap64 (x_7 + 1)))) | .inr r_135 => some r_135) else ((some (Sum.inl ())).map Sum.inr)
def isa_Decode.m (a0 : Int) : Option (api_Inst × Int) :=
 (loop (isa_Decode.l0 a0) 1 : Option (Unit ⊕ (api_Inst × Int))).bind fun o_4 => match o_4 with | .inl s_6 => (some ((⟨0, 0, 0, 0, 0⟩ : api_Inst), 3)) | .inr r_142 => some r_142
set_option maxHeartbeats 4000000 in
set_option maxRecDepth 100000 in
theorem isa_Decode.calls (a0 : Int) (r : api_Inst × Int) (w : World) (H : isa_Decode.m a0 = some r) :
 Ret Try.prog 30 [.int .u32 a0] w fun v w' => v = .tuple #[.agg #[.int .i64 r.1.Op, .int .i64 r.1.T, .int .i64 r.1.A, .int .i64 r.1.B, .int .i64 r.1.Imm], .int .i64 r.2] ∧ Aft w w' [] [] := by
 unfold isa_Decode.m at H
 have hp0 := Hp.startR (F := no) (R := []) (Have.nil w) (fun _ h => h.elim)
 have ep0 := Ep.refl no [] w
 refine enter (L := [(0, .int .u32 a0)]) Try.func30 rfl Try.ntmps30 rfl rfl ?_
 refine k_seq ?_
 refine k_region ?_
 refine s_alloc (zv := .agg #[.int .i64 0, .int .i64 0, .int .i64 0, .int .i64 0, .int .i64 0]) (l := [.int .i64 0, .int .i64 0, .int .i64 0, .int .i64 0, .int .i64 0]) hp0 (by intro w_; kernel_rfl) rfl rfl (fun b_1 w_2 hp_3 => ?_)
 refine sv (v := .int .i64 0) rfl rfl rfl (e_assign rfl) ?_
 refine k_nil ?_
 refine k_seq ?_
 refine kq tb hp_3 [] [(4, .int .i64 1)] (by kernel_rfl) fun σ => ?_
 obtain ⟨o_4, H, G_5⟩ := bindSome H
 refine k_cut (fun a w' => ∃ (s_6 : Unit) (σ_143 : Nat → Value), o_4 = Sum.inl s_6 ∧ a = st 156 [(2, .pointer (some ⟨b_1, 0, none⟩))] σ_143 [] ∧ Hp (On []) no w w w' [[(b_1, .cells #[.int .i64 0, .int .i64 0, .int .i64 0, .int .i64 0, .int .i64 0] 44 (0, 0))]]) ?_ ?_
 ·as_aux_lemma =>
  refine k_block ?_
  refine k_lp (fun (x_7 : Int) a w' => ∃ (σ_136 : Nat → Value), a = st 156 [(0, .int .u32 a0), (2, .pointer (some ⟨b_1, 0, none⟩)), (4, .int .i64 x_7)] σ_136 [] ∧ Hp (On []) no w w w' [[(b_1, .cells #[.int .i64 0, .int .i64 0, .int .i64 0, .int .i64 0, .int .i64 0] 44 (0, 0))]]) H ⟨_, seenF ⟨rfl, rfl, rfl, trivial⟩, hp_3⟩ ?_
  clear H
  rintro x_7 a w' z_ ⟨σ_10, rfl, hp_11⟩ H hz_8
  unfold isa_Decode.l0 at H
  refine k_seq ?_
  refine kq tb hp_11 [] [(14, .bool (decide (x_7 ≤ 23)))] (by kernel_rfl) fun σ => ?_
  refine k_if (tm rfl rfl) (fun h_14 => ?_) (fun h_14 => ?_)
  ·as_aux_lemma =>
   have H := ift h_14 H
   refine k_skip ?_
   refine k_seq ?_
   obtain ⟨o_15, H, G_16⟩ := bindSome H
   refine k_cut (fun a w' => ∃ (s_17 : Unit) (σ_136 : Nat → Value), o_15 = Sum.inl s_17 ∧ a = st 156 [(0, .int .u32 a0), (2, .pointer (some ⟨b_1, 0, none⟩)), (4, .int .i64 x_7)] σ_136 [] ∧ Hp (On []) no w w w' [[(b_1, .cells #[.int .i64 0, .int .i64 0, .int .i64 0, .int .i64 0, .int .i64 0] 44 (0, 0))]]) ?_ ?_
   ·as_aux_lemma =>
    refine k_block ?_
    refine k_seq ?_
    refine k_region ?_
    refine sv (v := .int .i64 x_7) rfl rfl rfl (e_move (tm rfl rfl)) ?_
    refine s_call (.cons (tm rfl rfl) .nil) Try.call31 (isa_formOf.calls x_7 _) rfl ?_
    rintro v_ w_21 ⟨rfl, af_24⟩
    have hp_22 := Hp.callA af_24 hp_11
    refine sv (v := .tuple #[.int .i64 ((isa_formOf.m x_7).1), .int .u32 ((isa_formOf.m x_7).2)]) rfl rfl rfl (e_move (tm rfl rfl)) ?_
    refine sr tb hp_22 [] 4 [(5, .int .i64 ((isa_formOf.m x_7).1)), (6, .int .u32 ((isa_formOf.m x_7).2))] (by kernel_rfl) fun σ => ?_
    refine k_nil ?_
    refine k_seq ?_
    refine kq tb hp_22 [] [(26, .bool (!decide (((bits .xor .u32 a0 ((isa_formOf.m x_7).2)) / 67108864) = 0)))] (by kernel_rfl) fun σ => ?_
    refine k_if (tm rfl rfl) (fun h_25 => ?_) (fun h_25 => ?_)
    ·have H := ift h_25 H
     refine k_exit ?_
     refine q_here ?_
     obtain rfl := Option.some.inj H
     exact ⟨(), _, rfl, seenF ⟨rfl, rfl, rfl, trivial⟩, hp_22⟩
    have H := iff_ h_25 H
    refine k_skip ?_
    refine k_seq ?_
    refine k_region ?_
    refine sr tb hp_22 [] 2 [(28, .agg #[.int .i64 x_7, .int .i64 0, .int .i64 0, .int .i64 0, .int .i64 0])] (by kernel_rfl) fun σ => ?_
    refine s_alloc (zv := .agg #[.int .i64 0, .int .i64 0, .int .i64 0, .int .i64 0, .int .i64 0]) (l := [.int .i64 0, .int .i64 0, .int .i64 0, .int .i64 0, .int .i64 0]) hp_22 (by intro w_; kernel_rfl) rfl rfl (fun b_26 w_27 hp_28 => ?_)
    refine s_store (i := 1) (j := 0) (vs := [.int .i64 x_7, .int .i64 0, .int .i64 0, .int .i64 0, .int .i64 0]) (l' := [.int .i64 x_7, .int .i64 0, .int .i64 0, .int .i64 0, .int .i64 0]) hp_28 (tm rfl rfl) (tm rfl rfl) rfl Try.sizeOf44 rfl rfl rfl rfl rfl rfl (fun w_29 hp_30 => ?_)
    refine k_nil ?_
    refine kq tb hp_30 [] [(8, .int .i64 (wrap64 (bits .and .u32 (a0 / 2097152) 31))), (9, .int .i64 (wrap64 (bits .and .u32 (a0 / 65536) 31))), (10, .int .i64 (wrap64 (bits .and .u32 (a0 / 2048) 31)))] (by kernel_rfl) fun σ => ?_
    refine k_seq ?_
    refine kq tb hp_30 [] [(41, .int .i64 ((isa_formOf.m x_7).1))] (by kernel_rfl) fun σ => ?_
    obtain ⟨o_31, H, G_32⟩ := bindSome H
    refine k_cut (fun a w' => ∃ (σ_131 : Nat → Value), a = st 156 [(0, .int .u32 a0), (2, .pointer (some ⟨b_1, 0, none⟩)), (4, .int .i64 x_7), (7, .pointer (some ⟨b_26, 0, none⟩))] σ_131 [] ∧ Hp (On []) no w w w' [[(b_1, .cells #[.int .i64 0, .int .i64 0, .int .i64 0, .int .i64 0, .int .i64 0] 44 (0, 0))], [(b_26, .cells #[.int .i64 o_31.Op, .int .i64 o_31.T, .int .i64 o_31.A, .int .i64 o_31.B, .int .i64 o_31.Imm] 44 (0, 0))]]) ?_ ?_
    ·as_aux_lemma =>
     refine k_block ?_
     refine kq tb hp_30 [] [(42, .bool (decide (((isa_formOf.m x_7).1) = 1)))] (by kernel_rfl) fun σ => ?_
     refine k_if (tm rfl rfl) (fun h_33 => ?_) (fun h_33 => ?_)
     ·have H := ift h_33 H
      refine k_region ?_
      refine sr tb hp_30 [(7, 1, 0)] 6 [(44, .int .i64 (wrap64 (bits .and .u32 (a0 / 2097152) 31))), (45, .int .i64 (wrap64 (bits .and .u32 (a0 / 65536) 31))), (48, .int .i64 (wrap64 (wrap16 (a0)))), (49, .pointer (some ⟨b_26, 1, none⟩))] (by kernel_rfl) fun σ => ?_
      refine s_store (i := 1) (j := 0) (vs := [.int .i64 (wrap64 (bits .and .u32 (a0 / 2097152) 31))]) (l' := [.int .i64 x_7, .int .i64 (wrap64 (bits .and .u32 (a0 / 2097152) 31)), .int .i64 0, .int .i64 0, .int .i64 0]) hp_30 (tm rfl rfl) (tm rfl rfl) rfl Try.sizeOf3 rfl rfl rfl rfl rfl rfl (fun w_34 hp_35 => ?_)
      refine sv (v := .pointer (some ⟨b_26, 2, none⟩)) rfl rfl rfl (e_fieldAddr (tm rfl rfl) Try.runUnderlying44 rfl Try.sizeOf3 rfl rfl) ?_
      refine s_store (i := 1) (j := 0) (vs := [.int .i64 (wrap64 (bits .and .u32 (a0 / 65536) 31))]) (l' := [.int .i64 x_7, .int .i64 (wrap64 (bits .and .u32 (a0 / 2097152) 31)), .int .i64 (wrap64 (bits .and .u32 (a0 / 65536) 31)), .int .i64 0, .int .i64 0]) hp_35 (tm rfl rfl) (tm rfl rfl) rfl Try.sizeOf3 rfl rfl rfl rfl rfl rfl (fun w_36 hp_37 => ?_)
      refine sv (v := .pointer (some ⟨b_26, 4, none⟩)) rfl rfl rfl (e_fieldAddr (tm rfl rfl) Try.runUnderlying44 rfl Try.sizeOf3 rfl rfl) ?_
      refine s_store (i := 1) (j := 0) (vs := [.int .i64 (wrap64 (wrap16 (a0)))]) (l' := [.int .i64 x_7, .int .i64 (wrap64 (bits .and .u32 (a0 / 2097152) 31)), .int .i64 (wrap64 (bits .and .u32 (a0 / 65536) 31)), .int .i64 0, .int .i64 (wrap64 (wrap16 (a0)))]) hp_37 (tm rfl rfl) (tm rfl rfl) rfl Try.sizeOf3 rfl rfl rfl rfl rfl rfl (fun w_38 hp_39 => ?_)
      refine k_nil ?_
      obtain rfl := Option.some.inj H
      exact ⟨_, seenF ⟨rfl, rfl, rfl, rfl, trivial⟩, hp_39⟩
     have H := iff_ h_33 H
     refine kq tb hp_30 [] [(52, .bool (decide (((isa_formOf.m x_7).1) = 2)))] (by kernel_rfl) fun σ => ?_
     refine k_if (tm rfl rfl) (fun h_40 => ?_) (fun h_40 => ?_)
     ·have H := ift h_40 H
      refine k_region ?_
      refine sr tb hp_30 [(7, 1, 0)] 6 [(54, .int .i64 (wrap64 (bits .and .u32 (a0 / 65536) 31))), (55, .int .i64 (wrap64 (bits .and .u32 (a0 / 2097152) 31))), (58, .int .i64 (wrap64 (bits .and .u32 a0 65535))), (59, .pointer (some ⟨b_26, 1, none⟩))] (by kernel_rfl) fun σ => ?_
      refine s_store (i := 1) (j := 0) (vs := [.int .i64 (wrap64 (bits .and .u32 (a0 / 65536) 31))]) (l' := [.int .i64 x_7, .int .i64 (wrap64 (bits .and .u32 (a0 / 65536) 31)), .int .i64 0, .int .i64 0, .int .i64 0]) hp_30 (tm rfl rfl) (tm rfl rfl) rfl Try.sizeOf3 rfl rfl rfl rfl rfl rfl (fun w_41 hp_42 => ?_)
      refine sv (v := .pointer (some ⟨b_26, 2, none⟩)) rfl rfl rfl (e_fieldAddr (tm rfl rfl) Try.runUnderlying44 rfl Try.sizeOf3 rfl rfl) ?_
      refine s_store (i := 1) (j := 0) (vs := [.int .i64 (wrap64 (bits .and .u32 (a0 / 2097152) 31))]) (l' := [.int .i64 x_7, .int .i64 (wrap64 (bits .and .u32 (a0 / 65536) 31)), .int .i64 (wrap64 (bits .and .u32 (a0 / 2097152) 31)), .int .i64 0, .int .i64 0]) hp_42 (tm rfl rfl) (tm rfl rfl) rfl Try.sizeOf3 rfl rfl rfl rfl rfl rfl (fun w_43 hp_44 => ?_)
      refine sv (v := .pointer (some ⟨b_26, 4, none⟩)) rfl rfl rfl (e_fieldAddr (tm rfl rfl) Try.runUnderlying44 rfl Try.sizeOf3 rfl rfl) ?_
      refine s_store (i := 1) (j := 0) (vs := [.int .i64 (wrap64 (bits .and .u32 a0 65535))]) (l' := [.int .i64 x_7, .int .i64 (wrap64 (bits .and .u32 (a0 / 65536) 31)), .int .i64 (wrap64 (bits .and .u32 (a0 / 2097152) 31)), .int .i64 0, .int .i64 (wrap64 (bits .and .u32 a0 65535))]) hp_44 (tm rfl rfl) (tm rfl rfl) rfl Try.sizeOf3 rfl rfl rfl rfl rfl rfl (fun w_45 hp_46 => ?_)
      refine k_nil ?_
      obtain rfl := Option.some.inj H
      exact ⟨_, seenF ⟨rfl, rfl, rfl, rfl, trivial⟩, hp_46⟩
     have H := iff_ h_40 H
     refine kq tb hp_30 [] [(62, .bool (decide (((isa_formOf.m x_7).1) = 3)))] (by kernel_rfl) fun σ => ?_
     refine k_if (tm rfl rfl) (fun h_47 => ?_) (fun h_47 => ?_)
     ·have H := ift h_47 H
      refine k_region ?_
      refine sr tb hp_30 [(7, 1, 0)] 12 [(64, .int .i64 (wrap64 (bits .and .u32 (a0 / 65536) 31))), (65, .int .i64 (wrap64 (bits .and .u32 (a0 / 2097152) 31))), (74, .int .i64 (wrap64 (bits .or .u32 (bits .and .u32 (a0 / 2048) 31) (((bits .and .u32 (a0 / 2) 1) * 32) % 4294967296)))), (75, .pointer (some ⟨b_26, 1, none⟩))] (by kernel_rfl) fun σ => ?_
      refine s_store (i := 1) (j := 0) (vs := [.int .i64 (wrap64 (bits .and .u32 (a0 / 65536) 31))]) (l' := [.int .i64 x_7, .int .i64 (wrap64 (bits .and .u32 (a0 / 65536) 31)), .int .i64 0, .int .i64 0, .int .i64 0]) hp_30 (tm rfl rfl) (tm rfl rfl) rfl Try.sizeOf3 rfl rfl rfl rfl rfl rfl (fun w_48 hp_49 => ?_)
      refine sv (v := .pointer (some ⟨b_26, 2, none⟩)) rfl rfl rfl (e_fieldAddr (tm rfl rfl) Try.runUnderlying44 rfl Try.sizeOf3 rfl rfl) ?_
      refine s_store (i := 1) (j := 0) (vs := [.int .i64 (wrap64 (bits .and .u32 (a0 / 2097152) 31))]) (l' := [.int .i64 x_7, .int .i64 (wrap64 (bits .and .u32 (a0 / 65536) 31)), .int .i64 (wrap64 (bits .and .u32 (a0 / 2097152) 31)), .int .i64 0, .int .i64 0]) hp_49 (tm rfl rfl) (tm rfl rfl) rfl Try.sizeOf3 rfl rfl rfl rfl rfl rfl (fun w_50 hp_51 => ?_)
      refine sv (v := .pointer (some ⟨b_26, 4, none⟩)) rfl rfl rfl (e_fieldAddr (tm rfl rfl) Try.runUnderlying44 rfl Try.sizeOf3 rfl rfl) ?_
      refine s_store (i := 1) (j := 0) (vs := [.int .i64 (wrap64 (bits .or .u32 (bits .and .u32 (a0 / 2048) 31) (((bits .and .u32 (a0 / 2) 1) * 32) % 4294967296)))]) (l' := [.int .i64 x_7, .int .i64 (wrap64 (bits .and .u32 (a0 / 65536) 31)), .int .i64 (wrap64 (bits .and .u32 (a0 / 2097152) 31)), .int .i64 0, .int .i64 (wrap64 (bits .or .u32 (bits .and .u32 (a0 / 2048) 31) (((bits .and .u32 (a0 / 2) 1) * 32) % 4294967296)))]) hp_51 (tm rfl rfl) (tm rfl rfl) rfl Try.sizeOf3 rfl rfl rfl rfl rfl rfl (fun w_52 hp_53 => ?_)
      refine k_nil ?_
      obtain rfl := Option.some.inj H
      exact ⟨_, seenF ⟨rfl, rfl, rfl, rfl, trivial⟩, hp_53⟩
     have H := iff_ h_47 H
     refine kq tb hp_30 [] [(78, .bool (decide (((isa_formOf.m x_7).1) = 4)))] (by kernel_rfl) fun σ => ?_
     refine k_if (tm rfl rfl) (fun h_54 => ?_) (fun h_54 => ?_)
     ·have H := ift h_54 H
      refine k_region ?_
      refine sr tb hp_30 [(7, 1, 0)] 4 [(80, .int .i64 (wrap64 (bits .and .u32 (a0 / 2097152) 31))), (81, .int .i64 (wrap64 (bits .and .u32 (a0 / 65536) 31))), (82, .int .i64 (wrap64 (bits .and .u32 (a0 / 2048) 31))), (83, .pointer (some ⟨b_26, 1, none⟩))] (by kernel_rfl) fun σ => ?_
      refine s_store (i := 1) (j := 0) (vs := [.int .i64 (wrap64 (bits .and .u32 (a0 / 2097152) 31))]) (l' := [.int .i64 x_7, .int .i64 (wrap64 (bits .and .u32 (a0 / 2097152) 31)), .int .i64 0, .int .i64 0, .int .i64 0]) hp_30 (tm rfl rfl) (tm rfl rfl) rfl Try.sizeOf3 rfl rfl rfl rfl rfl rfl (fun w_55 hp_56 => ?_)
      refine sv (v := .pointer (some ⟨b_26, 2, none⟩)) rfl rfl rfl (e_fieldAddr (tm rfl rfl) Try.runUnderlying44 rfl Try.sizeOf3 rfl rfl) ?_
      refine s_store (i := 1) (j := 0) (vs := [.int .i64 (wrap64 (bits .and .u32 (a0 / 65536) 31))]) (l' := [.int .i64 x_7, .int .i64 (wrap64 (bits .and .u32 (a0 / 2097152) 31)), .int .i64 (wrap64 (bits .and .u32 (a0 / 65536) 31)), .int .i64 0, .int .i64 0]) hp_56 (tm rfl rfl) (tm rfl rfl) rfl Try.sizeOf3 rfl rfl rfl rfl rfl rfl (fun w_57 hp_58 => ?_)
      refine sv (v := .pointer (some ⟨b_26, 3, none⟩)) rfl rfl rfl (e_fieldAddr (tm rfl rfl) Try.runUnderlying44 rfl Try.sizeOf3 rfl rfl) ?_
      refine s_store (i := 1) (j := 0) (vs := [.int .i64 (wrap64 (bits .and .u32 (a0 / 2048) 31))]) (l' := [.int .i64 x_7, .int .i64 (wrap64 (bits .and .u32 (a0 / 2097152) 31)), .int .i64 (wrap64 (bits .and .u32 (a0 / 65536) 31)), .int .i64 (wrap64 (bits .and .u32 (a0 / 2048) 31)), .int .i64 0]) hp_58 (tm rfl rfl) (tm rfl rfl) rfl Try.sizeOf3 rfl rfl rfl rfl rfl rfl (fun w_59 hp_60 => ?_)
      refine k_nil ?_
      obtain rfl := Option.some.inj H
      exact ⟨_, seenF ⟨rfl, rfl, rfl, rfl, trivial⟩, hp_60⟩
     have H := iff_ h_54 H
     refine kq tb hp_30 [] [(86, .bool (decide (((isa_formOf.m x_7).1) = 5)))] (by kernel_rfl) fun σ => ?_
     refine k_if (tm rfl rfl) (fun h_61 => ?_) (fun h_61 => ?_)
     ·have H := ift h_61 H
      refine k_region ?_
      refine sr tb hp_30 [(7, 1, 0)] 7 [(88, .int .i64 (wrap64 (bits .and .u32 (a0 / 2097152) 31))), (89, .int .i64 (wrap64 (bits .and .u32 (a0 / 65536) 31))), (93, .int .i64 (wrap64 (wrap16 (bits .and .u32 a0 65532)))), (94, .pointer (some ⟨b_26, 1, none⟩))] (by kernel_rfl) fun σ => ?_
      refine s_store (i := 1) (j := 0) (vs := [.int .i64 (wrap64 (bits .and .u32 (a0 / 2097152) 31))]) (l' := [.int .i64 x_7, .int .i64 (wrap64 (bits .and .u32 (a0 / 2097152) 31)), .int .i64 0, .int .i64 0, .int .i64 0]) hp_30 (tm rfl rfl) (tm rfl rfl) rfl Try.sizeOf3 rfl rfl rfl rfl rfl rfl (fun w_62 hp_63 => ?_)
      refine sv (v := .pointer (some ⟨b_26, 2, none⟩)) rfl rfl rfl (e_fieldAddr (tm rfl rfl) Try.runUnderlying44 rfl Try.sizeOf3 rfl rfl) ?_
      refine s_store (i := 1) (j := 0) (vs := [.int .i64 (wrap64 (bits .and .u32 (a0 / 65536) 31))]) (l' := [.int .i64 x_7, .int .i64 (wrap64 (bits .and .u32 (a0 / 2097152) 31)), .int .i64 (wrap64 (bits .and .u32 (a0 / 65536) 31)), .int .i64 0, .int .i64 0]) hp_63 (tm rfl rfl) (tm rfl rfl) rfl Try.sizeOf3 rfl rfl rfl rfl rfl rfl (fun w_64 hp_65 => ?_)
      refine sv (v := .pointer (some ⟨b_26, 4, none⟩)) rfl rfl rfl (e_fieldAddr (tm rfl rfl) Try.runUnderlying44 rfl Try.sizeOf3 rfl rfl) ?_
      refine s_store (i := 1) (j := 0) (vs := [.int .i64 (wrap64 (wrap16 (bits .and .u32 a0 65532)))]) (l' := [.int .i64 x_7, .int .i64 (wrap64 (bits .and .u32 (a0 / 2097152) 31)), .int .i64 (wrap64 (bits .and .u32 (a0 / 65536) 31)), .int .i64 0, .int .i64 (wrap64 (wrap16 (bits .and .u32 a0 65532)))]) hp_65 (tm rfl rfl) (tm rfl rfl) rfl Try.sizeOf3 rfl rfl rfl rfl rfl rfl (fun w_66 hp_67 => ?_)
      refine k_nil ?_
      obtain rfl := Option.some.inj H
      exact ⟨_, seenF ⟨rfl, rfl, rfl, rfl, trivial⟩, hp_67⟩
     have H := iff_ h_61 H
     refine kq tb hp_30 [] [(97, .bool (decide (((isa_formOf.m x_7).1) = 6)))] (by kernel_rfl) fun σ => ?_
     refine k_if (tm rfl rfl) (fun h_68 => ?_) (fun h_68 => ?_)
     ·have H := ift h_68 H
      refine k_region ?_
      refine sr tb hp_30 [(7, 1, 0)] 3 [(99, .int .i64 (wrap64 (bits .and .u32 (a0 / 65536) 31))), (100, .int .i64 (wrap64 (bits .and .u32 (a0 / 2048) 31))), (101, .pointer (some ⟨b_26, 2, none⟩))] (by kernel_rfl) fun σ => ?_
      refine s_store (i := 1) (j := 0) (vs := [.int .i64 (wrap64 (bits .and .u32 (a0 / 65536) 31))]) (l' := [.int .i64 x_7, .int .i64 0, .int .i64 (wrap64 (bits .and .u32 (a0 / 65536) 31)), .int .i64 0, .int .i64 0]) hp_30 (tm rfl rfl) (tm rfl rfl) rfl Try.sizeOf3 rfl rfl rfl rfl rfl rfl (fun w_69 hp_70 => ?_)
      refine sv (v := .pointer (some ⟨b_26, 3, none⟩)) rfl rfl rfl (e_fieldAddr (tm rfl rfl) Try.runUnderlying44 rfl Try.sizeOf3 rfl rfl) ?_
      refine s_store (i := 1) (j := 0) (vs := [.int .i64 (wrap64 (bits .and .u32 (a0 / 2048) 31))]) (l' := [.int .i64 x_7, .int .i64 0, .int .i64 (wrap64 (bits .and .u32 (a0 / 65536) 31)), .int .i64 (wrap64 (bits .and .u32 (a0 / 2048) 31)), .int .i64 0]) hp_70 (tm rfl rfl) (tm rfl rfl) rfl Try.sizeOf3 rfl rfl rfl rfl rfl rfl (fun w_71 hp_72 => ?_)
      refine k_nil ?_
      obtain rfl := Option.some.inj H
      exact ⟨_, seenF ⟨rfl, rfl, rfl, rfl, trivial⟩, hp_72⟩
     have H := iff_ h_68 H
     refine kq tb hp_30 [] [(103, .bool (decide (((isa_formOf.m x_7).1) = 7)))] (by kernel_rfl) fun σ => ?_
     refine k_if (tm rfl rfl) (fun h_73 => ?_) (fun h_73 => ?_)
     ·have H := ift h_73 H
      refine k_region ?_
      refine sr tb hp_30 [(7, 1, 0)] 5 [(105, .int .i64 (wrap64 (bits .and .u32 (a0 / 65536) 31))), (108, .int .i64 (wrap64 (wrap16 (a0)))), (109, .pointer (some ⟨b_26, 2, none⟩))] (by kernel_rfl) fun σ => ?_
      refine s_store (i := 1) (j := 0) (vs := [.int .i64 (wrap64 (bits .and .u32 (a0 / 65536) 31))]) (l' := [.int .i64 x_7, .int .i64 0, .int .i64 (wrap64 (bits .and .u32 (a0 / 65536) 31)), .int .i64 0, .int .i64 0]) hp_30 (tm rfl rfl) (tm rfl rfl) rfl Try.sizeOf3 rfl rfl rfl rfl rfl rfl (fun w_74 hp_75 => ?_)
      refine sv (v := .pointer (some ⟨b_26, 4, none⟩)) rfl rfl rfl (e_fieldAddr (tm rfl rfl) Try.runUnderlying44 rfl Try.sizeOf3 rfl rfl) ?_
      refine s_store (i := 1) (j := 0) (vs := [.int .i64 (wrap64 (wrap16 (a0)))]) (l' := [.int .i64 x_7, .int .i64 0, .int .i64 (wrap64 (bits .and .u32 (a0 / 65536) 31)), .int .i64 0, .int .i64 (wrap64 (wrap16 (a0)))]) hp_75 (tm rfl rfl) (tm rfl rfl) rfl Try.sizeOf3 rfl rfl rfl rfl rfl rfl (fun w_76 hp_77 => ?_)
      refine k_nil ?_
      obtain rfl := Option.some.inj H
      exact ⟨_, seenF ⟨rfl, rfl, rfl, rfl, trivial⟩, hp_77⟩
     have H := iff_ h_73 H
     refine kq tb hp_30 [] [(111, .bool (decide (((isa_formOf.m x_7).1) = 8)))] (by kernel_rfl) fun σ => ?_
     refine k_if (tm rfl rfl) (fun h_78 => ?_) (fun h_78 => ?_)
     ·as_aux_lemma =>
      have H := ift h_78 H
      refine k_seq ?_
      refine k_region ?_
      refine sr tb hp_30 [(7, 1, 0)] 5 [(116, .int .i64 (wrap64 (wrap16 (bits .and .u32 a0 65532)))), (117, .pointer (some ⟨b_26, 4, none⟩))] (by kernel_rfl) fun σ => ?_
      refine s_store (i := 1) (j := 0) (vs := [.int .i64 (wrap64 (wrap16 (bits .and .u32 a0 65532)))]) (l' := [.int .i64 x_7, .int .i64 0, .int .i64 0, .int .i64 0, .int .i64 (wrap64 (wrap16 (bits .and .u32 a0 65532)))]) hp_30 (tm rfl rfl) (tm rfl rfl) rfl Try.sizeOf3 rfl rfl rfl rfl rfl rfl (fun w_79 hp_80 => ?_)
      refine k_nil ?_
      obtain ⟨o_81, H, G_82⟩ := bindSome H
      refine k_cut (fun a w' => ∃ (σ_113 : Nat → Value), a = st 156 [(0, .int .u32 a0), (2, .pointer (some ⟨b_1, 0, none⟩)), (4, .int .i64 x_7), (7, .pointer (some ⟨b_26, 0, none⟩))] σ_113 [] ∧ Hp (On []) no w w w' [[(b_1, .cells #[.int .i64 0, .int .i64 0, .int .i64 0, .int .i64 0, .int .i64 0] 44 (0, 0))], [(b_26, .cells #[.int .i64 x_7, .int .i64 o_81, .int .i64 0, .int .i64 0, .int .i64 (wrap64 (wrap16 (bits .and .u32 a0 65532)))] 44 (0, 0))]]) ?_ ?_
      ·as_aux_lemma =>
       refine k_block ?_
       refine k_lp (fun (x_83 : Int) a w' => ∃ (σ_108 : Nat → Value), a = st 156 [(0, .int .u32 a0), (2, .pointer (some ⟨b_1, 0, none⟩)), (4, .int .i64 x_7), (7, .pointer (some ⟨b_26, 0, none⟩))] σ_108 [] ∧ Hp (On []) no w w w' [[(b_1, .cells #[.int .i64 0, .int .i64 0, .int .i64 0, .int .i64 0, .int .i64 0] 44 (0, 0))], [(b_26, .cells #[.int .i64 x_7, .int .i64 x_83, .int .i64 0, .int .i64 0, .int .i64 (wrap64 (wrap16 (bits .and .u32 a0 65532)))] 44 (0, 0))]]) H ⟨_, seenF ⟨rfl, rfl, rfl, rfl, trivial⟩, hp_80⟩ ?_
       clear H
       rintro x_83 a w' z_ ⟨σ_86, rfl, hp_87⟩ H hz_84
       unfold isa_Decode.l1 at H
       refine k_seq ?_
       refine k_seq ?_
       obtain ⟨o_90, H, G_91⟩ := bindSome H
       refine k_cut (fun a w' => ∃ (σ_108 : Nat → Value), a = st 156 [(0, .int .u32 a0), (2, .pointer (some ⟨b_1, 0, none⟩)), (4, .int .i64 x_7), (7, .pointer (some ⟨b_26, 0, none⟩)), (128, .bool o_90)] σ_108 [] ∧ Hp (On []) no w w w' [[(b_1, .cells #[.int .i64 0, .int .i64 0, .int .i64 0, .int .i64 0, .int .i64 0] 44 (0, 0))], [(b_26, .cells #[.int .i64 x_7, .int .i64 x_83, .int .i64 0, .int .i64 0, .int .i64 (wrap64 (wrap16 (bits .and .u32 a0 65532)))] 44 (0, 0))]]) ?_ ?_
       ·as_aux_lemma =>
        refine k_region ?_
        refine sr tb hp_87 [(7, 1, 0)] 6 [(121, .bool (decide (x_83 < 3))), (122, bif (decide (x_83 < 3)) then (.pointer (some ⟨b_26, 1, none⟩)) else undef), (123, bif (decide (x_83 < 3)) then (.int .i64 x_83) else undef)] (by kernel_rfl) fun σ => ?_
        rcases Bool.eq_false_or_eq_true (decide (x_83 < 3)) with h_92 | h_92
        ·have H := ift h_92 H
         refine gon rfl rfl (congrArg Value.bool h_92) ?_
         refine s_call (.cons (tmg (decide (x_83 < 3)) (.int .i64 x_83) rfl rfl h_92) .nil) Try.call33 (isa_cond.calls x_83 _) rfl ?_
         rintro v_ w_96 ⟨rfl, af_99⟩
         have hp_97 := Hp.callA af_99 hp_87
         refine gon rfl rfl (congrArg Value.bool h_92) ?_
         refine sv (v := .int .u32 a0) rfl rfl rfl (e_move (tm rfl rfl)) ?_
         refine gon rfl rfl (congrArg Value.bool h_92) ?_
         refine sv (v := .int .u32 (bits .and .u32 a0 67043328)) rfl rfl rfl (e_bin (tm rfl rfl) rfl (r_bits (by simp) rfl)) ?_
         refine gon rfl rfl (congrArg Value.bool h_92) ?_
         refine sv (v := .bool (!decide ((isa_cond.m x_83) = (bits .and .u32 a0 67043328)))) rfl rfl rfl (e_bin (tm rfl rfl) (tm rfl rfl) (r_neq rfl)) ?_
         refine sv (v := .bool (!decide ((isa_cond.m x_83) = (bits .and .u32 a0 67043328)))) rfl rfl rfl (e_pick (b := decide (x_83 < 3)) (v1 := .bool (!decide ((isa_cond.m x_83) = (bits .and .u32 a0 67043328)))) (v2 := .bool (!decide ((isa_cond.m x_83) = (bits .and .u32 a0 67043328)))) (tm rfl rfl) (fun _ => (tm rfl rfl)) (fun h_ => pk_no h_ h_92) (pk_same _ _)) ?_
         refine k_nil ?_
         obtain rfl := Option.some.inj H
         exact ⟨_, seenF ⟨rfl, rfl, rfl, rfl, rfl, trivial⟩, hp_97⟩
        have H := iff_ h_92 H
        refine goff rfl rfl (congrArg Value.bool h_92) rfl ?_
        refine goff rfl rfl (congrArg Value.bool h_92) rfl ?_
        refine goff rfl rfl (congrArg Value.bool h_92) rfl ?_
        refine goff rfl rfl (congrArg Value.bool h_92) rfl ?_
        refine sv (v := .bool false) rfl rfl rfl (e_pick (b := decide (x_83 < 3)) (v1 := .bool false) (v2 := .bool false) (tm rfl rfl) (fun h_ => pk_no h_92 h_) (fun _ => rfl) (pk_same _ _)) ?_
        refine k_nil ?_
        obtain rfl := Option.some.inj H
        exact ⟨_, seenF ⟨rfl, rfl, rfl, rfl, rfl, trivial⟩, hp_87⟩
       clear H
       rintro a w' ⟨σ_100, rfl, hp_101⟩
       have H := G_91
       refine k_if (tm rfl rfl) (fun h_104 => ?_) (fun h_104 => ?_)
       ·have H := ift h_104 H
        refine k_skip ?_
        refine k_block ?_
        refine k_region ?_
        refine sr tb hp_101 [(7, 1, 0)] 4 [(131, .int .i64 (wrap64 (x_83 + 1))), (132, .pointer (some ⟨b_26, 1, none⟩))] (by kernel_rfl) fun σ => ?_
        refine s_store (i := 1) (j := 0) (vs := [.int .i64 (wrap64 (x_83 + 1))]) (l' := [.int .i64 x_7, .int .i64 (wrap64 (x_83 + 1)), .int .i64 0, .int .i64 0, .int .i64 (wrap64 (wrap16 (bits .and .u32 a0 65532)))]) hp_101 (tm rfl rfl) (tm rfl rfl) rfl Try.sizeOf3 rfl rfl rfl rfl rfl rfl (fun w_105 hp_106 => ?_)
        refine k_nil ?_
        obtain rfl := Option.some.inj H
        exact ⟨_, rfl, ⟨_, seenF ⟨rfl, rfl, rfl, rfl, trivial⟩, hp_106⟩⟩
       have H := iff_ h_104 H
       refine k_exit ?_
       refine q_here ?_
       obtain ⟨v_, H', hv_⟩ := mapSome H
       have hv_ := hz_84 _ hv_
       subst hv_
       have H := H'
       clear H'
       obtain rfl := Option.some.inj H
       exact ⟨_, seenF ⟨rfl, rfl, rfl, rfl, trivial⟩, hp_101⟩
      clear H
      rintro a w' ⟨σ_108, rfl, hp_109⟩
      have H := G_82
      obtain rfl := Option.some.inj H
      exact ⟨_, seenF ⟨rfl, rfl, rfl, rfl, trivial⟩, hp_109⟩
     have H := iff_ h_78 H
     refine kq tb hp_30 [] [(133, .bool (decide (((isa_formOf.m x_7).1) = 9)))] (by kernel_rfl) fun σ => ?_
     refine k_if (tm rfl rfl) (fun h_113 => ?_) (fun h_113 => ?_)
     ·have H := ift h_113 H
      refine k_region ?_
      refine sr tb hp_30 [(7, 1, 0)] 7 [(140, .int .i64 (wrap64 ((wrap32 (((bits .and .u32 a0 67108860) * 64) % 4294967296)) / 64))), (141, .pointer (some ⟨b_26, 4, none⟩))] (by kernel_rfl) fun σ => ?_
      refine s_store (i := 1) (j := 0) (vs := [.int .i64 (wrap64 ((wrap32 (((bits .and .u32 a0 67108860) * 64) % 4294967296)) / 64))]) (l' := [.int .i64 x_7, .int .i64 0, .int .i64 0, .int .i64 0, .int .i64 (wrap64 ((wrap32 (((bits .and .u32 a0 67108860) * 64) % 4294967296)) / 64))]) hp_30 (tm rfl rfl) (tm rfl rfl) rfl Try.sizeOf3 rfl rfl rfl rfl rfl rfl (fun w_114 hp_115 => ?_)
      refine k_nil ?_
      obtain rfl := Option.some.inj H
      exact ⟨_, seenF ⟨rfl, rfl, rfl, rfl, trivial⟩, hp_115⟩
     have H := iff_ h_113 H
     refine k_skip ?_
     obtain rfl := Option.some.inj H
     exact ⟨_, seenF ⟨rfl, rfl, rfl, rfl, trivial⟩, hp_30⟩
    clear H
    rintro a w' ⟨σ_116, rfl, hp_117⟩
    have H := G_32
    refine k_seq ?_
    refine k_region ?_
    refine sv (v := .agg #[.int .i64 o_31.Op, .int .i64 o_31.T, .int .i64 o_31.A, .int .i64 o_31.B, .int .i64 o_31.Imm]) rfl rfl rfl (e_loadA (tm rfl rfl) Try.isAgg44 Try.sizeOf44 rfl (cells_box (sz := 5) (hp_117.get (i := 1) (j := 0) rfl rfl) rfl)) ?_
    obtain ⟨r_122, hx_121, H⟩ := bindSome H
    refine s_call (.cons (tm rfl rfl) .nil) Try.call18 (isa_Encode.calls o_31 r_122 _ hx_121) rfl ?_
    rintro v_ w_123 ⟨rfl, af_126⟩
    have hp_124 := Hp.callA af_126 hp_117
    refine sv (v := .tuple #[.int .u32 r_122.1, .int .i64 r_122.2]) rfl rfl rfl (e_move (tm rfl rfl)) ?_
    refine sr tb hp_124 [] 4 [(11, .int .u32 r_122.1), (12, .int .i64 r_122.2)] (by kernel_rfl) fun σ => ?_
    refine k_nil ?_
    refine kq tb hp_124 [] [(150, bif (decide (r_122.2 = 0)) then (.int .u32 r_122.1) else undef), (151, bif (decide (r_122.2 = 0)) then (.int .u32 a0) else undef), (152, bif (decide (r_122.2 = 0)) then (.bool (decide (r_122.1 = a0))) else undef), (153, .bool ((decide (r_122.2 = 0)) && (decide (r_122.1 = a0))))] (by kernel_rfl) fun σ => ?_
    refine k_if (tm rfl rfl) (fun h_127 => ?_) (fun h_127 => ?_)
    ·have H := ift h_127 H
     refine k_seq ?_
     refine k_region ?_
     refine sv (v := .agg #[.int .i64 o_31.Op, .int .i64 o_31.T, .int .i64 o_31.A, .int .i64 o_31.B, .int .i64 o_31.Imm]) rfl rfl rfl (e_loadA (tm rfl rfl) Try.isAgg44 Try.sizeOf44 rfl (cells_box (sz := 5) (hp_124.get (i := 1) (j := 0) rfl rfl) rfl)) ?_
     refine s_store (i := 0) (j := 0) (vs := [.int .i64 o_31.Op, .int .i64 o_31.T, .int .i64 o_31.A, .int .i64 o_31.B, .int .i64 o_31.Imm]) (l' := [.int .i64 o_31.Op, .int .i64 o_31.T, .int .i64 o_31.A, .int .i64 o_31.B, .int .i64 o_31.Imm]) hp_124 (tm rfl rfl) (tm rfl rfl) rfl Try.sizeOf44 rfl rfl rfl rfl rfl rfl (fun w_128 hp_129 => ?_)
     refine sv (v := .int .i64 0) rfl rfl rfl (e_assign rfl) ?_
     refine k_nil ?_
     refine k_ret ?_
     refine q_ret ?_
     refine q_ret ?_
     obtain ⟨v_, H', hv_⟩ := mapSome H
     subst hv_
     have H := H'.trans (show some v_ = _ from G_16)
     obtain ⟨v_, H', hv_⟩ := mapSome H
     have hv_ := hz_8 _ hv_
     subst hv_
     have H := H'
     clear H'
     obtain ⟨v_, H', hv_⟩ := mapSome H
     subst hv_
     have H := H'.trans (show some v_ = _ from G_5)
     obtain rfl := Option.some.inj H
     exact k_end rfl (.cell rfl rfl (r_loadA Try.isAgg44 Try.sizeOf44 rfl (cells_box (sz := 5) (hp_129.get (i := 0) (j := 0) rfl rfl) rfl)) (.tmp rfl rfl .nil)) rfl ⟨rfl, (hp_129.pick [] (by decide) rfl).aft⟩
    have H := iff_ h_127 H
    refine k_skip ?_
    obtain rfl := Option.some.inj H
    exact ⟨(), _, rfl, seenF ⟨rfl, rfl, rfl, trivial⟩, hp_124.pick [0] (by decide) rfl⟩
   clear H
   rintro a w' ⟨s_17, σ_131, rfl, rfl, hp_132⟩
   have H := G_16
   refine kr tb hp_132 [] [(4, .int .i64 (wrap64 (x_7 + 1)))] (by kernel_rfl) fun σ => ?_
   obtain rfl := Option.some.inj H
   exact ⟨_, rfl, ⟨_, seenF ⟨rfl, rfl, rfl, trivial⟩, hp_132⟩⟩
  have H := iff_ h_14 H
  refine k_exit ?_
  refine q_here ?_
  obtain ⟨v_, H', hv_⟩ := mapSome H
  have hv_ := hz_8 _ hv_
  subst hv_
  have H := H'
  clear H'
  obtain rfl := Option.some.inj H
  exact ⟨(), _, rfl, seenF ⟨rfl, trivial⟩, hp_11⟩
 clear H
 rintro a w' ⟨s_6, σ_136, rfl, rfl, hp_137⟩
 have H := G_5
 refine k_seq ?_
 refine k_region ?_
 refine sv (v := .agg #[.int .i64 0, .int .i64 0, .int .i64 0, .int .i64 0, .int .i64 0]) rfl rfl rfl (e_build (vs := []) (cs := [.int .i64 0, .int .i64 0, .int .i64 0, .int .i64 0, .int .i64 0]) .nil (by kernel_rfl)) ?_
 refine s_store (i := 0) (j := 0) (vs := [.int .i64 0, .int .i64 0, .int .i64 0, .int .i64 0, .int .i64 0]) (l' := [.int .i64 0, .int .i64 0, .int .i64 0, .int .i64 0, .int .i64 0]) hp_137 (tm rfl rfl) (tm rfl rfl) rfl Try.sizeOf44 rfl rfl rfl rfl rfl rfl (fun w_140 hp_141 => ?_)
 refine sv (v := .int .i64 3) rfl rfl rfl (e_assign rfl) ?_
 refine k_nil ?_
 refine k_ret ?_
 obtain rfl := Option.some.inj H
 exact k_end rfl (.cell rfl rfl (r_loadA Try.isAgg44 Try.sizeOf44 rfl (cells_box (sz := 5) (hp_141.get (i := 0) (j := 0) rfl rfl) rfl)) (.tmp rfl rfl .nil)) rfl ⟨rfl, (hp_141.pick [] (by decide) rfl).aft⟩

end Go.Proofs.Ytcnchjlomcafeaa.W

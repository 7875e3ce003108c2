/- Functions of the program as plain Lean functions, and that the calls do what they say: written by w2.py. -/
import Derived.Test.YtcnchjlomcafeaaDefer
import Derived.Test.YtcnchjlomcafeaaTy
import Derived.Test.YtcnchjlomcafeaaF0
import Derived.Test.YtcnchjlomcafeaaF3
import Derived.Test.YtcnchjlomcafeaaF4
set_option linter.unusedVariables false
set_option linter.unusedSimpArgs false
set_option linter.unusedSectionVars false
namespace Go.Proofs.Ytcnchjlomcafeaa.W
open Go Go.RowKit Go.Proofs.Ytcnchjlomcafeaa.B
attribute [local irreducible] Go.wpList Go.Code.wp Go.Region.wanted Go.yielded
/-! ### selvage/isa.Encode: function 18 -/
def isa_Encode.m (a0 : api_Inst) : Option (Int × Int) :=
  (isa_check.m ((isa_formOf.m a0.Op).1) a0).bind fun r_13 => (if (!decide (r_13 = 0)) = true then (some (0, r_13)) else ((if (decide (((isa_formOf.m a0.Op).1) = 1)) = true then (some (bits .or .u32 ((isa_formOf.m a0.Op).2) (bits .or .u32 (bits .or .u32 ((((a0.T) % 4294967296) * 2097152) % 4294967296) ((((a0.A) % 4294967296) * 65536) % 4294967296)) (bits .and .u32 ((a0.Imm) % 4294967296) 65535)))) else (if (decide (((isa_formOf.m a0.Op).1) = 2)) = true then (some (bits .or .u32 ((isa_formOf.m a0.Op).2) (bits .or .u32 (bits .or .u32 ((((a0.A) % 4294967296) * 2097152) % 4294967296) ((((a0.T) % 4294967296) * 65536) % 4294967296)) ((a0.Imm) % 4294967296)))) else (if (decide (((isa_formOf.m a0.Op).1) = 3)) = true then (some (bits .or .u32 ((isa_formOf.m a0.Op).2) (bits .or .u32 (bits .or .u32 (bits .or .u32 (bits .or .u32 (bits .or .u32 ((((a0.A) % 4294967296) * 2097152) % 4294967296) ((((a0.T) % 4294967296) * 65536) % 4294967296)) (((bits .and .u32 ((a0.Imm) % 4294967296) 31) * 2048) % 4294967296)) (((bits .and .u32 ((63 - ((a0.Imm) % 4294967296)) % 4294967296) 31) * 64) % 4294967296)) (((((63 - ((a0.Imm) % 4294967296)) % 4294967296) / 32) * 32) % 4294967296)) (((((a0.Imm) % 4294967296) / 32) * 2) % 4294967296)))) else (if (decide (((isa_formOf.m a0.Op).1) = 4)) = true then (some (bits .or .u32 ((isa_formOf.m a0.Op).2) (bits .or .u32 (bits .or .u32 ((((a0.T) % 4294967296) * 2097152) % 4294967296) ((((a0.A) % 4294967296) * 65536) % 4294967296)) ((((a0.B) % 4294967296) * 2048) % 4294967296)))) else (if (decide (((isa_formOf.m a0.Op).1) = 5)) = true then (some (bits .or .u32 ((isa_formOf.m a0.Op).2) (bits .or .u32 (bits .or .u32 ((((a0.T) % 4294967296) * 2097152) % 4294967296) ((((a0.A) % 4294967296) * 65536) % 4294967296)) (bits .and .u32 ((a0.Imm) % 4294967296) 65532)))) else (if (decide (((isa_formOf.m a0.Op).1) = 6)) = true then (some (bits .or .u32 ((isa_formOf.m a0.Op).2) (bits .or .u32 ((((a0.A) % 4294967296) * 65536) % 4294967296) ((((a0.B) % 4294967296) * 2048) % 4294967296)))) else (if (decide (((isa_formOf.m a0.Op).1) = 7)) = true then (some (bits .or .u32 ((isa_formOf.m a0.Op).2) (bits .or .u32 ((((a0.A) % 4294967296) * 65536) % 4294967296) (bits .and .u32 ((a0.Imm) % 4294967296) 65535)))) else (if (decide (((isa_formOf.m a0.Op).1) = 8)) = true then (some (bits .or .u32 ((isa_formOf.m a0.Op).2) (bits .or .u32 (isa_cond.m a0.T) (bits .and .u32 ((a0.Imm) % 4294967296) 65532)))) else (if (decide (((isa_formOf.m a0.Op).1) = 9)) = true then (some (bits .or .u32 ((isa_formOf.m a0.Op).2) (bits .and .u32 ((a0.Imm) % 4294967296) 67108860))) else (some ((isa_formOf.m a0.Op).2)))))))))) : Option Int).bind fun o_21 => some (o_21, 0)))
set_option maxHeartbeats 4000000 in
set_option maxRecDepth 100000 in
theorem isa_Encode.calls (a0 : api_Inst) (r : Int × Int) (w : World) (H : isa_Encode.m a0 = some r) :
    Ret Try.prog 18 [.agg #[.int .i64 a0.Op, .int .i64 a0.T, .int .i64 a0.A, .int .i64 a0.B, .int .i64 a0.Imm]] w fun v w' => v = .tuple #[.int .u32 r.1, .int .i64 r.2] ∧ Aft w w' [] [] := by
  unfold isa_Encode.m at H
  have hp0 := Hp.startR (F := no) (R := []) (Have.nil w) (fun _ h => h.elim)
  have ep0 := Ep.refl no [] w
  refine enter (L := [(0, .agg #[.int .i64 a0.Op, .int .i64 a0.T, .int .i64 a0.A, .int .i64 a0.B, .int .i64 a0.Imm])]) Try.func18 rfl Try.ntmps18 rfl rfl ?_
  refine k_seq ?_
  refine k_region ?_
  refine s_box (l := [.int .i64 a0.Op, .int .i64 a0.T, .int .i64 a0.A, .int .i64 a0.B, .int .i64 a0.Imm]) hp0 (tm rfl rfl) rfl rfl (fun b_1 w_2 hp_3 => ?_)
  refine sv (v := .int .u32 0) rfl rfl rfl (e_assign rfl) ?_
  refine sv (v := .int .i64 0) rfl rfl rfl (e_assign rfl) ?_
  refine k_nil ?_
  refine k_seq ?_
  refine k_region ?_
  refine sv (v := .pointer (some ⟨b_1, 0, none⟩)) rfl rfl rfl (e_fieldAddr (tm rfl rfl) Try.runUnderlying44 rfl Try.sizeOf3 rfl rfl) ?_
  refine sv (v := .int .i64 a0.Op) rfl rfl rfl (e_load1 (tm rfl rfl) Try.isAgg3 (cell_atL (hp_3.get (i := 0) (j := 0) rfl rfl) rfl)) ?_
  refine s_call (.cons (tm rfl rfl) .nil) Try.call31 (isa_formOf.calls a0.Op _) rfl ?_
  rintro v_ w_7 ⟨rfl, af_10⟩
  have hp_8 := Hp.callA af_10 hp_3
  refine sv (v := .tuple #[.int .i64 ((isa_formOf.m a0.Op).1), .int .u32 ((isa_formOf.m a0.Op).2)]) rfl rfl rfl (e_move (tm rfl rfl)) ?_
  refine sv (v := .int .i64 ((isa_formOf.m a0.Op).1)) rfl rfl rfl (e_extract (tm rfl rfl) rfl) ?_
  refine sv (v := .int .u32 ((isa_formOf.m a0.Op).2)) rfl rfl rfl (e_extract (tm rfl rfl) rfl) ?_
  refine sv (v := .int .i64 ((isa_formOf.m a0.Op).1)) rfl rfl rfl (e_assign (tm rfl rfl)) ?_
  refine sv (v := .int .u32 ((isa_formOf.m a0.Op).2)) rfl rfl rfl (e_assign (tm rfl rfl)) ?_
  refine k_nil ?_
  refine k_seq ?_
  refine k_seq ?_
  refine k_region ?_
  refine sv (v := .int .i64 ((isa_formOf.m a0.Op).1)) rfl rfl rfl (e_move (tm rfl rfl)) ?_
  refine sv (v := .agg #[.int .i64 a0.Op, .int .i64 a0.T, .int .i64 a0.A, .int .i64 a0.B, .int .i64 a0.Imm]) rfl rfl rfl (e_loadA (tm rfl rfl) Try.isAgg44 Try.sizeOf44 rfl (cells_box (sz := 5) (hp_8.get (i := 0) (j := 0) rfl rfl) rfl)) ?_
  obtain ⟨r_13, hx_12, H⟩ := bindSome H
  refine s_call (.cons (tm rfl rfl) (.cons (tm rfl rfl) .nil)) Try.call32 (isa_check.calls ((isa_formOf.m a0.Op).1) a0 r_13 _ hx_12) rfl ?_
  rintro v_ w_14 ⟨rfl, af_17⟩
  have hp_15 := Hp.callA af_17 hp_8
  refine sv (v := .int .i64 r_13) rfl rfl rfl (e_assign (tm rfl rfl)) ?_
  refine k_nil ?_
  refine k_seq ?_
  refine k_region ?_
  refine sv (v := .int .i64 r_13) rfl rfl rfl (e_move (tm rfl rfl)) ?_
  refine sv (v := .bool (!decide (r_13 = 0))) rfl rfl rfl (e_bin (tm rfl rfl) rfl (r_neq rfl)) ?_
  refine k_nil ?_
  refine k_if (tm rfl rfl) (fun h_18 => ?_) (fun h_18 => ?_)
  · have H := ift h_18 H
    refine k_seq ?_
    refine k_region ?_
    refine sv (v := .int .i64 r_13) rfl rfl rfl (e_move (tm rfl rfl)) ?_
    refine sv (v := .int .u32 0) rfl rfl rfl (e_assign rfl) ?_
    refine sv (v := .int .i64 r_13) rfl rfl rfl (e_assign (tm rfl rfl)) ?_
    refine k_nil ?_
    refine k_ret ?_
    obtain rfl := Option.some.inj H
    exact k_end rfl (.tmp rfl rfl (.tmp rfl rfl .nil)) rfl ⟨rfl, (hp_15.pick [] (by decide) rfl).aft⟩
  have H := iff_ h_18 H
  refine k_skip ?_
  refine k_seq ?_
  refine k_any (WF no w [[(b_1, .cells #[.int .i64 a0.Op, .int .i64 a0.T, .int .i64 a0.A, .int .i64 a0.B, .int .i64 a0.Imm] 44 (0, 0))]] [[0], [0], [0], [0], [0], [0], [0], [0], [0], [0], [0], [0], [0], [0], [0], [0], [0], [0], [0]] [0, 1, 3, 7, 0, 16, 48, 112, 0, 256, 768, 1792, 0, 4096, 12288, 15, 33023, 102399, 262143]) mixed hp_15 19 (by kernel_rfl) (fun w_19 hp_20 => ?_)
  refine w_take (m' := 1) (v := .pointer (some ⟨b_1, 1, none⟩)) 0 rfl rfl (by kernel_rfl) (by kernel_rfl) (by kernel_rfl) (by kernel_rfl) (by kernel_rfl) (by kernel_rfl) (by kernel_rfl) (po_then po_body) (Wp.of hp_20 [0] rfl) (y_val (fun w_ hW_ => e_fieldAddr (tm rfl rfl) Try.runUnderlying44 rfl Try.sizeOf3 rfl rfl)) ?_
  refine w_take (m' := 17) (v := .pointer (some ⟨b_1, 2, none⟩)) 4 rfl rfl (by kernel_rfl) (by kernel_rfl) (by kernel_rfl) (by kernel_rfl) (by kernel_rfl) (by kernel_rfl) (by kernel_rfl) (po_then po_body) (Wp.of hp_20 [0] rfl) (y_val (fun w_ hW_ => e_fieldAddr (tm rfl rfl) Try.runUnderlying44 rfl Try.sizeOf3 rfl rfl)) ?_
  refine w_take (m' := 273) (v := .pointer (some ⟨b_1, 3, none⟩)) 8 rfl rfl (by kernel_rfl) (by kernel_rfl) (by kernel_rfl) (by kernel_rfl) (by kernel_rfl) (by kernel_rfl) (by kernel_rfl) (po_then po_body) (Wp.of hp_20 [0] rfl) (y_val (fun w_ hW_ => e_fieldAddr (tm rfl rfl) Try.runUnderlying44 rfl Try.sizeOf3 rfl rfl)) ?_
  refine w_take (m' := 4369) (v := .pointer (some ⟨b_1, 4, none⟩)) 12 rfl rfl (by kernel_rfl) (by kernel_rfl) (by kernel_rfl) (by kernel_rfl) (by kernel_rfl) (by kernel_rfl) (by kernel_rfl) (po_then po_body) (Wp.of hp_20 [0] rfl) (y_val (fun w_ hW_ => e_fieldAddr (tm rfl rfl) Try.runUnderlying44 rfl Try.sizeOf3 rfl rfl)) ?_
  refine w_take (m' := 4371) (v := .int .i64 a0.T) 1 rfl rfl (by kernel_rfl) (by kernel_rfl) (by kernel_rfl) (by kernel_rfl) (by kernel_rfl) (by kernel_rfl) (by kernel_rfl) (po_then po_body) (Wp.of hp_20 [0] rfl) (y_val (fun w_ hW_ => e_load1 (tm rfl rfl) Try.isAgg3 (cell_atL (hW_.get (i := 0) (j := 0) rfl rfl) rfl))) ?_
  refine w_take (m' := 4375) (v := .int .u32 ((a0.T) % 4294967296)) 2 rfl rfl (by kernel_rfl) (by kernel_rfl) (by kernel_rfl) (by kernel_rfl) (by kernel_rfl) (by kernel_rfl) (by kernel_rfl) (po_then po_body) (Wp.of hp_20 [0] rfl) (y_val (fun w_ hW_ => e_conv (tm rfl rfl) Try.runUnderlying3 Try.runUnderlying47 (wrap_u32 _))) ?_
  refine w_take (m' := 4383) (v := .int .u32 ((((a0.T) % 4294967296) * 2097152) % 4294967296)) 3 rfl rfl (by kernel_rfl) (by kernel_rfl) (by kernel_rfl) (by kernel_rfl) (by kernel_rfl) (by kernel_rfl) (by kernel_rfl) (po_then po_body) (Wp.of hp_20 [0] rfl) (y_val (fun w_ hW_ => e_bin (tm rfl rfl) rfl (r_shl (by decide) (wrap_u32 _)))) ?_
  refine w_take (m' := 37151) (v := .int .u32 ((((a0.T) % 4294967296) * 2097152) % 4294967296)) 15 rfl rfl (by kernel_rfl) (by kernel_rfl) (by kernel_rfl) (by kernel_rfl) (by kernel_rfl) (by kernel_rfl) (by kernel_rfl) (po_then po_body) (Wp.of hp_20 [0] rfl) (y_val (fun w_ hW_ => e_assign (tm rfl rfl))) ?_
  refine w_take (m' := 37183) (v := .int .i64 a0.A) 5 rfl rfl (by kernel_rfl) (by kernel_rfl) (by kernel_rfl) (by kernel_rfl) (by kernel_rfl) (by kernel_rfl) (by kernel_rfl) (po_then po_body) (Wp.of hp_20 [0] rfl) (y_val (fun w_ hW_ => e_load1 (tm rfl rfl) Try.isAgg3 (cell_atL (hW_.get (i := 0) (j := 0) rfl rfl) rfl))) ?_
  refine w_take (m' := 37247) (v := .int .u32 ((a0.A) % 4294967296)) 6 rfl rfl (by kernel_rfl) (by kernel_rfl) (by kernel_rfl) (by kernel_rfl) (by kernel_rfl) (by kernel_rfl) (by kernel_rfl) (po_then po_body) (Wp.of hp_20 [0] rfl) (y_val (fun w_ hW_ => e_conv (tm rfl rfl) Try.runUnderlying3 Try.runUnderlying47 (wrap_u32 _))) ?_
  refine w_take (m' := 37375) (v := .int .u32 ((((a0.A) % 4294967296) * 65536) % 4294967296)) 7 rfl rfl (by kernel_rfl) (by kernel_rfl) (by kernel_rfl) (by kernel_rfl) (by kernel_rfl) (by kernel_rfl) (by kernel_rfl) (po_then po_body) (Wp.of hp_20 [0] rfl) (y_val (fun w_ hW_ => e_bin (tm rfl rfl) rfl (r_shl (by decide) (wrap_u32 _)))) ?_
  refine w_take (m' := 102911) (v := .int .u32 ((((a0.A) % 4294967296) * 65536) % 4294967296)) 16 rfl rfl (by kernel_rfl) (by kernel_rfl) (by kernel_rfl) (by kernel_rfl) (by kernel_rfl) (by kernel_rfl) (by kernel_rfl) (po_then po_body) (Wp.of hp_20 [0] rfl) (y_val (fun w_ hW_ => e_assign (tm rfl rfl))) ?_
  refine w_take (m' := 103423) (v := .int .i64 a0.B) 9 rfl rfl (by kernel_rfl) (by kernel_rfl) (by kernel_rfl) (by kernel_rfl) (by kernel_rfl) (by kernel_rfl) (by kernel_rfl) (po_then po_body) (Wp.of hp_20 [0] rfl) (y_val (fun w_ hW_ => e_load1 (tm rfl rfl) Try.isAgg3 (cell_atL (hW_.get (i := 0) (j := 0) rfl rfl) rfl))) ?_
  refine w_take (m' := 104447) (v := .int .u32 ((a0.B) % 4294967296)) 10 rfl rfl (by kernel_rfl) (by kernel_rfl) (by kernel_rfl) (by kernel_rfl) (by kernel_rfl) (by kernel_rfl) (by kernel_rfl) (po_then po_body) (Wp.of hp_20 [0] rfl) (y_val (fun w_ hW_ => e_conv (tm rfl rfl) Try.runUnderlying3 Try.runUnderlying47 (wrap_u32 _))) ?_
  refine w_take (m' := 106495) (v := .int .u32 ((((a0.B) % 4294967296) * 2048) % 4294967296)) 11 rfl rfl (by kernel_rfl) (by kernel_rfl) (by kernel_rfl) (by kernel_rfl) (by kernel_rfl) (by kernel_rfl) (by kernel_rfl) (po_then po_body) (Wp.of hp_20 [0] rfl) (y_val (fun w_ hW_ => e_bin (tm rfl rfl) rfl (r_shl (by decide) (wrap_u32 _)))) ?_
  refine w_take (m' := 237567) (v := .int .u32 ((((a0.B) % 4294967296) * 2048) % 4294967296)) 17 rfl rfl (by kernel_rfl) (by kernel_rfl) (by kernel_rfl) (by kernel_rfl) (by kernel_rfl) (by kernel_rfl) (by kernel_rfl) (po_then po_body) (Wp.of hp_20 [0] rfl) (y_val (fun w_ hW_ => e_assign (tm rfl rfl))) ?_
  refine w_take (m' := 245759) (v := .int .i64 a0.Imm) 13 rfl rfl (by kernel_rfl) (by kernel_rfl) (by kernel_rfl) (by kernel_rfl) (by kernel_rfl) (by kernel_rfl) (by kernel_rfl) (po_then po_body) (Wp.of hp_20 [0] rfl) (y_val (fun w_ hW_ => e_load1 (tm rfl rfl) Try.isAgg3 (cell_atL (hW_.get (i := 0) (j := 0) rfl rfl) rfl))) ?_
  refine w_take (m' := 262143) (v := .int .u32 ((a0.Imm) % 4294967296)) 14 rfl rfl (by kernel_rfl) (by kernel_rfl) (by kernel_rfl) (by kernel_rfl) (by kernel_rfl) (by kernel_rfl) (by kernel_rfl) (po_then po_body) (Wp.of hp_20 [0] rfl) (y_val (fun w_ hW_ => e_conv (tm rfl rfl) Try.runUnderlying3 Try.runUnderlying47 (wrap_u32 _))) ?_
  refine w_take (m' := 524287) (v := .int .u32 ((a0.Imm) % 4294967296)) 18 rfl rfl (by kernel_rfl) (by kernel_rfl) (by kernel_rfl) (by kernel_rfl) (by kernel_rfl) (by kernel_rfl) (by kernel_rfl) (po_then po_body) (Wp.of hp_20 [0] rfl) (y_val (fun w_ hW_ => e_assign (tm rfl rfl))) ?_
  refine w_done (by kernel_rfl) ?_
  refine k_seq ?_
  refine k_seq ?_
  refine k_region ?_
  refine sv (v := .int .i64 ((isa_formOf.m a0.Op).1)) rfl rfl rfl (e_move (tm rfl rfl)) ?_
  refine k_nil ?_
  obtain ⟨o_21, H, G_22⟩ := bindSome H
  refine k_cut (fun a w' => ∃ (σ_44 : Nat → Value), a = st 147 [(5, .int .u32 o_21)] σ_44 [] ∧ Hp (On []) no w w w' []) ?_ ?_
  · as_aux_lemma =>
      refine k_block ?_
      refine k_seq ?_
      refine k_region ?_
      refine sv (v := .bool (decide (((isa_formOf.m a0.Op).1) = 1))) rfl rfl rfl (e_bin (tm rfl rfl) rfl (r_eql rfl)) ?_
      refine sv (v := .bool (decide (((isa_formOf.m a0.Op).1) = 1))) rfl rfl rfl (e_assign (tm rfl rfl)) ?_
      refine k_nil ?_
      refine k_if (tm rfl rfl) (fun h_23 => ?_) (fun h_23 => ?_)
      · have H := ift h_23 H
        refine k_region ?_
        refine sv (v := .int .u32 ((isa_formOf.m a0.Op).2)) rfl rfl rfl (e_move (tm rfl rfl)) ?_
        refine sv (v := .int .u32 ((((a0.T) % 4294967296) * 2097152) % 4294967296)) rfl rfl rfl (e_move (tm rfl rfl)) ?_
        refine sv (v := .int .u32 ((((a0.A) % 4294967296) * 65536) % 4294967296)) rfl rfl rfl (e_move (tm rfl rfl)) ?_
        refine sv (v := .int .u32 (bits .or .u32 ((((a0.T) % 4294967296) * 2097152) % 4294967296) ((((a0.A) % 4294967296) * 65536) % 4294967296))) rfl rfl rfl (e_bin (tm rfl rfl) (tm rfl rfl) (r_bits (by simp) rfl)) ?_
        refine sv (v := .int .u32 ((a0.Imm) % 4294967296)) rfl rfl rfl (e_move (tm rfl rfl)) ?_
        refine sv (v := .int .u32 (bits .and .u32 ((a0.Imm) % 4294967296) 65535)) rfl rfl rfl (e_bin (tm rfl rfl) rfl (r_bits (by simp) rfl)) ?_
        refine sv (v := .int .u32 (bits .or .u32 (bits .or .u32 ((((a0.T) % 4294967296) * 2097152) % 4294967296) ((((a0.A) % 4294967296) * 65536) % 4294967296)) (bits .and .u32 ((a0.Imm) % 4294967296) 65535))) rfl rfl rfl (e_bin (tm rfl rfl) (tm rfl rfl) (r_bits (by simp) rfl)) ?_
        refine sv (v := .int .u32 (bits .or .u32 ((isa_formOf.m a0.Op).2) (bits .or .u32 (bits .or .u32 ((((a0.T) % 4294967296) * 2097152) % 4294967296) ((((a0.A) % 4294967296) * 65536) % 4294967296)) (bits .and .u32 ((a0.Imm) % 4294967296) 65535)))) rfl rfl rfl (e_bin (tm rfl rfl) (tm rfl rfl) (r_bits (by simp) rfl)) ?_
        refine sv (v := .int .u32 (bits .or .u32 ((isa_formOf.m a0.Op).2) (bits .or .u32 (bits .or .u32 ((((a0.T) % 4294967296) * 2097152) % 4294967296) ((((a0.A) % 4294967296) * 65536) % 4294967296)) (bits .and .u32 ((a0.Imm) % 4294967296) 65535)))) rfl rfl rfl (e_assign (tm rfl rfl)) ?_
        refine k_nil ?_
        obtain rfl := Option.some.inj H
        exact ⟨_, seenF ⟨rfl, trivial⟩, hp_20.pick [] (by decide) rfl⟩
      have H := iff_ h_23 H
      refine k_seq ?_
      refine k_region ?_
      refine sv (v := .bool (decide (((isa_formOf.m a0.Op).1) = 2))) rfl rfl rfl (e_bin (tm rfl rfl) rfl (r_eql rfl)) ?_
      refine sv (v := .bool (decide (((isa_formOf.m a0.Op).1) = 2))) rfl rfl rfl (e_assign (tm rfl rfl)) ?_
      refine k_nil ?_
      refine k_if (tm rfl rfl) (fun h_24 => ?_) (fun h_24 => ?_)
      · have H := ift h_24 H
        refine k_region ?_
        refine sv (v := .int .u32 ((isa_formOf.m a0.Op).2)) rfl rfl rfl (e_move (tm rfl rfl)) ?_
        refine sv (v := .pointer (some ⟨b_1, 2, none⟩)) rfl rfl rfl (e_fieldAddr (tm rfl rfl) Try.runUnderlying44 rfl Try.sizeOf3 rfl rfl) ?_
        refine sv (v := .int .i64 a0.A) rfl rfl rfl (e_load1 (tm rfl rfl) Try.isAgg3 (cell_atL (hp_20.get (i := 0) (j := 0) rfl rfl) rfl)) ?_
        refine sv (v := .int .u32 ((a0.A) % 4294967296)) rfl rfl rfl (e_conv (tm rfl rfl) Try.runUnderlying3 Try.runUnderlying47 (wrap_u32 _)) ?_
        refine sv (v := .int .u32 ((((a0.A) % 4294967296) * 2097152) % 4294967296)) rfl rfl rfl (e_bin (tm rfl rfl) rfl (r_shl (by decide) (wrap_u32 _))) ?_
        refine sv (v := .pointer (some ⟨b_1, 1, none⟩)) rfl rfl rfl (e_fieldAddr (tm rfl rfl) Try.runUnderlying44 rfl Try.sizeOf3 rfl rfl) ?_
        refine sv (v := .int .i64 a0.T) rfl rfl rfl (e_load1 (tm rfl rfl) Try.isAgg3 (cell_atL (hp_20.get (i := 0) (j := 0) rfl rfl) rfl)) ?_
        refine sv (v := .int .u32 ((a0.T) % 4294967296)) rfl rfl rfl (e_conv (tm rfl rfl) Try.runUnderlying3 Try.runUnderlying47 (wrap_u32 _)) ?_
        refine sv (v := .int .u32 ((((a0.T) % 4294967296) * 65536) % 4294967296)) rfl rfl rfl (e_bin (tm rfl rfl) rfl (r_shl (by decide) (wrap_u32 _))) ?_
        refine sv (v := .int .u32 (bits .or .u32 ((((a0.A) % 4294967296) * 2097152) % 4294967296) ((((a0.T) % 4294967296) * 65536) % 4294967296))) rfl rfl rfl (e_bin (tm rfl rfl) (tm rfl rfl) (r_bits (by simp) rfl)) ?_
        refine sv (v := .int .u32 ((a0.Imm) % 4294967296)) rfl rfl rfl (e_move (tm rfl rfl)) ?_
        refine sv (v := .int .u32 (bits .or .u32 (bits .or .u32 ((((a0.A) % 4294967296) * 2097152) % 4294967296) ((((a0.T) % 4294967296) * 65536) % 4294967296)) ((a0.Imm) % 4294967296))) rfl rfl rfl (e_bin (tm rfl rfl) (tm rfl rfl) (r_bits (by simp) rfl)) ?_
        refine sv (v := .int .u32 (bits .or .u32 ((isa_formOf.m a0.Op).2) (bits .or .u32 (bits .or .u32 ((((a0.A) % 4294967296) * 2097152) % 4294967296) ((((a0.T) % 4294967296) * 65536) % 4294967296)) ((a0.Imm) % 4294967296)))) rfl rfl rfl (e_bin (tm rfl rfl) (tm rfl rfl) (r_bits (by simp) rfl)) ?_
        refine sv (v := .int .u32 (bits .or .u32 ((isa_formOf.m a0.Op).2) (bits .or .u32 (bits .or .u32 ((((a0.A) % 4294967296) * 2097152) % 4294967296) ((((a0.T) % 4294967296) * 65536) % 4294967296)) ((a0.Imm) % 4294967296)))) rfl rfl rfl (e_assign (tm rfl rfl)) ?_
        refine k_nil ?_
        obtain rfl := Option.some.inj H
        exact ⟨_, seenF ⟨rfl, trivial⟩, hp_20.pick [] (by decide) rfl⟩
      have H := iff_ h_24 H
      refine k_seq ?_
      refine k_region ?_
      refine sv (v := .bool (decide (((isa_formOf.m a0.Op).1) = 3))) rfl rfl rfl (e_bin (tm rfl rfl) rfl (r_eql rfl)) ?_
      refine sv (v := .bool (decide (((isa_formOf.m a0.Op).1) = 3))) rfl rfl rfl (e_assign (tm rfl rfl)) ?_
      refine k_nil ?_
      refine k_if (tm rfl rfl) (fun h_25 => ?_) (fun h_25 => ?_)
      · as_aux_lemma =>
          have H := ift h_25 H
          refine k_seq ?_
          refine k_region ?_
          refine sv (v := .int .u32 ((a0.Imm) % 4294967296)) rfl rfl rfl (e_move (tm rfl rfl)) ?_
          refine sv (v := .int .u32 ((63 - ((a0.Imm) % 4294967296)) % 4294967296)) rfl rfl rfl (e_bin rfl (tm rfl rfl) (r_sub (wrap_u32 _))) ?_
          refine sv (v := .int .u32 ((63 - ((a0.Imm) % 4294967296)) % 4294967296)) rfl rfl rfl (e_assign (tm rfl rfl)) ?_
          refine k_nil ?_
          refine k_region ?_
          refine sv (v := .int .u32 ((isa_formOf.m a0.Op).2)) rfl rfl rfl (e_move (tm rfl rfl)) ?_
          refine sv (v := .pointer (some ⟨b_1, 2, none⟩)) rfl rfl rfl (e_fieldAddr (tm rfl rfl) Try.runUnderlying44 rfl Try.sizeOf3 rfl rfl) ?_
          refine sv (v := .int .i64 a0.A) rfl rfl rfl (e_load1 (tm rfl rfl) Try.isAgg3 (cell_atL (hp_20.get (i := 0) (j := 0) rfl rfl) rfl)) ?_
          refine sv (v := .int .u32 ((a0.A) % 4294967296)) rfl rfl rfl (e_conv (tm rfl rfl) Try.runUnderlying3 Try.runUnderlying47 (wrap_u32 _)) ?_
          refine sv (v := .int .u32 ((((a0.A) % 4294967296) * 2097152) % 4294967296)) rfl rfl rfl (e_bin (tm rfl rfl) rfl (r_shl (by decide) (wrap_u32 _))) ?_
          refine sv (v := .pointer (some ⟨b_1, 1, none⟩)) rfl rfl rfl (e_fieldAddr (tm rfl rfl) Try.runUnderlying44 rfl Try.sizeOf3 rfl rfl) ?_
          refine sv (v := .int .i64 a0.T) rfl rfl rfl (e_load1 (tm rfl rfl) Try.isAgg3 (cell_atL (hp_20.get (i := 0) (j := 0) rfl rfl) rfl)) ?_
          refine sv (v := .int .u32 ((a0.T) % 4294967296)) rfl rfl rfl (e_conv (tm rfl rfl) Try.runUnderlying3 Try.runUnderlying47 (wrap_u32 _)) ?_
          refine sv (v := .int .u32 ((((a0.T) % 4294967296) * 65536) % 4294967296)) rfl rfl rfl (e_bin (tm rfl rfl) rfl (r_shl (by decide) (wrap_u32 _))) ?_
          refine sv (v := .int .u32 (bits .or .u32 ((((a0.A) % 4294967296) * 2097152) % 4294967296) ((((a0.T) % 4294967296) * 65536) % 4294967296))) rfl rfl rfl (e_bin (tm rfl rfl) (tm rfl rfl) (r_bits (by simp) rfl)) ?_
          refine sv (v := .int .u32 ((a0.Imm) % 4294967296)) rfl rfl rfl (e_move (tm rfl rfl)) ?_
          refine sv (v := .int .u32 (bits .and .u32 ((a0.Imm) % 4294967296) 31)) rfl rfl rfl (e_bin (tm rfl rfl) rfl (r_bits (by simp) rfl)) ?_
          refine sv (v := .int .u32 (((bits .and .u32 ((a0.Imm) % 4294967296) 31) * 2048) % 4294967296)) rfl rfl rfl (e_bin (tm rfl rfl) rfl (r_shl (by decide) (wrap_u32 _))) ?_
          refine sv (v := .int .u32 (bits .or .u32 (bits .or .u32 ((((a0.A) % 4294967296) * 2097152) % 4294967296) ((((a0.T) % 4294967296) * 65536) % 4294967296)) (((bits .and .u32 ((a0.Imm) % 4294967296) 31) * 2048) % 4294967296))) rfl rfl rfl (e_bin (tm rfl rfl) (tm rfl rfl) (r_bits (by simp) rfl)) ?_
          refine sv (v := .int .u32 ((63 - ((a0.Imm) % 4294967296)) % 4294967296)) rfl rfl rfl (e_move (tm rfl rfl)) ?_
          refine sv (v := .int .u32 (bits .and .u32 ((63 - ((a0.Imm) % 4294967296)) % 4294967296) 31)) rfl rfl rfl (e_bin (tm rfl rfl) rfl (r_bits (by simp) rfl)) ?_
          refine sv (v := .int .u32 (((bits .and .u32 ((63 - ((a0.Imm) % 4294967296)) % 4294967296) 31) * 64) % 4294967296)) rfl rfl rfl (e_bin (tm rfl rfl) rfl (r_shl (by decide) (wrap_u32 _))) ?_
          refine sv (v := .int .u32 (bits .or .u32 (bits .or .u32 (bits .or .u32 ((((a0.A) % 4294967296) * 2097152) % 4294967296) ((((a0.T) % 4294967296) * 65536) % 4294967296)) (((bits .and .u32 ((a0.Imm) % 4294967296) 31) * 2048) % 4294967296)) (((bits .and .u32 ((63 - ((a0.Imm) % 4294967296)) % 4294967296) 31) * 64) % 4294967296))) rfl rfl rfl (e_bin (tm rfl rfl) (tm rfl rfl) (r_bits (by simp) rfl)) ?_
          refine sv (v := .int .u32 ((63 - ((a0.Imm) % 4294967296)) % 4294967296)) rfl rfl rfl (e_move (tm rfl rfl)) ?_
          refine sv (v := .int .u32 (((63 - ((a0.Imm) % 4294967296)) % 4294967296) / 32)) rfl rfl rfl (e_bin (tm rfl rfl) rfl (r_shr (by decide) (fdv _ _ rfl))) ?_
          refine sv (v := .int .u32 (((((63 - ((a0.Imm) % 4294967296)) % 4294967296) / 32) * 32) % 4294967296)) rfl rfl rfl (e_bin (tm rfl rfl) rfl (r_shl (by decide) (wrap_u32 _))) ?_
          refine sv (v := .int .u32 (bits .or .u32 (bits .or .u32 (bits .or .u32 (bits .or .u32 ((((a0.A) % 4294967296) * 2097152) % 4294967296) ((((a0.T) % 4294967296) * 65536) % 4294967296)) (((bits .and .u32 ((a0.Imm) % 4294967296) 31) * 2048) % 4294967296)) (((bits .and .u32 ((63 - ((a0.Imm) % 4294967296)) % 4294967296) 31) * 64) % 4294967296)) (((((63 - ((a0.Imm) % 4294967296)) % 4294967296) / 32) * 32) % 4294967296))) rfl rfl rfl (e_bin (tm rfl rfl) (tm rfl rfl) (r_bits (by simp) rfl)) ?_
          refine sv (v := .int .u32 ((a0.Imm) % 4294967296)) rfl rfl rfl (e_move (tm rfl rfl)) ?_
          refine sv (v := .int .u32 (((a0.Imm) % 4294967296) / 32)) rfl rfl rfl (e_bin (tm rfl rfl) rfl (r_shr (by decide) (fdv _ _ rfl))) ?_
          refine sv (v := .int .u32 (((((a0.Imm) % 4294967296) / 32) * 2) % 4294967296)) rfl rfl rfl (e_bin (tm rfl rfl) rfl (r_shl (by decide) (wrap_u32 _))) ?_
          refine sv (v := .int .u32 (bits .or .u32 (bits .or .u32 (bits .or .u32 (bits .or .u32 (bits .or .u32 ((((a0.A) % 4294967296) * 2097152) % 4294967296) ((((a0.T) % 4294967296) * 65536) % 4294967296)) (((bits .and .u32 ((a0.Imm) % 4294967296) 31) * 2048) % 4294967296)) (((bits .and .u32 ((63 - ((a0.Imm) % 4294967296)) % 4294967296) 31) * 64) % 4294967296)) (((((63 - ((a0.Imm) % 4294967296)) % 4294967296) / 32) * 32) % 4294967296)) (((((a0.Imm) % 4294967296) / 32) * 2) % 4294967296))) rfl rfl rfl (e_bin (tm rfl rfl) (tm rfl rfl) (r_bits (by simp) rfl)) ?_
          refine sv (v := .int .u32 (bits .or .u32 ((isa_formOf.m a0.Op).2) (bits .or .u32 (bits .or .u32 (bits .or .u32 (bits .or .u32 (bits .or .u32 ((((a0.A) % 4294967296) * 2097152) % 4294967296) ((((a0.T) % 4294967296) * 65536) % 4294967296)) (((bits .and .u32 ((a0.Imm) % 4294967296) 31) * 2048) % 4294967296)) (((bits .and .u32 ((63 - ((a0.Imm) % 4294967296)) % 4294967296) 31) * 64) % 4294967296)) (((((63 - ((a0.Imm) % 4294967296)) % 4294967296) / 32) * 32) % 4294967296)) (((((a0.Imm) % 4294967296) / 32) * 2) % 4294967296)))) rfl rfl rfl (e_bin (tm rfl rfl) (tm rfl rfl) (r_bits (by simp) rfl)) ?_
          refine sv (v := .int .u32 (bits .or .u32 ((isa_formOf.m a0.Op).2) (bits .or .u32 (bits .or .u32 (bits .or .u32 (bits .or .u32 (bits .or .u32 ((((a0.A) % 4294967296) * 2097152) % 4294967296) ((((a0.T) % 4294967296) * 65536) % 4294967296)) (((bits .and .u32 ((a0.Imm) % 4294967296) 31) * 2048) % 4294967296)) (((bits .and .u32 ((63 - ((a0.Imm) % 4294967296)) % 4294967296) 31) * 64) % 4294967296)) (((((63 - ((a0.Imm) % 4294967296)) % 4294967296) / 32) * 32) % 4294967296)) (((((a0.Imm) % 4294967296) / 32) * 2) % 4294967296)))) rfl rfl rfl (e_assign (tm rfl rfl)) ?_
          refine k_nil ?_
          obtain rfl := Option.some.inj H
          exact ⟨_, seenF ⟨rfl, trivial⟩, hp_20.pick [] (by decide) rfl⟩
      have H := iff_ h_25 H
      refine k_seq ?_
      refine k_region ?_
      refine sv (v := .bool (decide (((isa_formOf.m a0.Op).1) = 4))) rfl rfl rfl (e_bin (tm rfl rfl) rfl (r_eql rfl)) ?_
      refine sv (v := .bool (decide (((isa_formOf.m a0.Op).1) = 4))) rfl rfl rfl (e_assign (tm rfl rfl)) ?_
      refine k_nil ?_
      refine k_if (tm rfl rfl) (fun h_26 => ?_) (fun h_26 => ?_)
      · have H := ift h_26 H
        refine k_region ?_
        refine sv (v := .int .u32 ((isa_formOf.m a0.Op).2)) rfl rfl rfl (e_move (tm rfl rfl)) ?_
        refine sv (v := .int .u32 ((((a0.T) % 4294967296) * 2097152) % 4294967296)) rfl rfl rfl (e_move (tm rfl rfl)) ?_
        refine sv (v := .int .u32 ((((a0.A) % 4294967296) * 65536) % 4294967296)) rfl rfl rfl (e_move (tm rfl rfl)) ?_
        refine sv (v := .int .u32 (bits .or .u32 ((((a0.T) % 4294967296) * 2097152) % 4294967296) ((((a0.A) % 4294967296) * 65536) % 4294967296))) rfl rfl rfl (e_bin (tm rfl rfl) (tm rfl rfl) (r_bits (by simp) rfl)) ?_
        refine sv (v := .int .u32 ((((a0.B) % 4294967296) * 2048) % 4294967296)) rfl rfl rfl (e_move (tm rfl rfl)) ?_
        refine sv (v := .int .u32 (bits .or .u32 (bits .or .u32 ((((a0.T) % 4294967296) * 2097152) % 4294967296) ((((a0.A) % 4294967296) * 65536) % 4294967296)) ((((a0.B) % 4294967296) * 2048) % 4294967296))) rfl rfl rfl (e_bin (tm rfl rfl) (tm rfl rfl) (r_bits (by simp) rfl)) ?_
        refine sv (v := .int .u32 (bits .or .u32 ((isa_formOf.m a0.Op).2) (bits .or .u32 (bits .or .u32 ((((a0.T) % 4294967296) * 2097152) % 4294967296) ((((a0.A) % 4294967296) * 65536) % 4294967296)) ((((a0.B) % 4294967296) * 2048) % 4294967296)))) rfl rfl rfl (e_bin (tm rfl rfl) (tm rfl rfl) (r_bits (by simp) rfl)) ?_
        refine sv (v := .int .u32 (bits .or .u32 ((isa_formOf.m a0.Op).2) (bits .or .u32 (bits .or .u32 ((((a0.T) % 4294967296) * 2097152) % 4294967296) ((((a0.A) % 4294967296) * 65536) % 4294967296)) ((((a0.B) % 4294967296) * 2048) % 4294967296)))) rfl rfl rfl (e_assign (tm rfl rfl)) ?_
        refine k_nil ?_
        obtain rfl := Option.some.inj H
        exact ⟨_, seenF ⟨rfl, trivial⟩, hp_20.pick [] (by decide) rfl⟩
      have H := iff_ h_26 H
      refine k_seq ?_
      refine k_region ?_
      refine sv (v := .bool (decide (((isa_formOf.m a0.Op).1) = 5))) rfl rfl rfl (e_bin (tm rfl rfl) rfl (r_eql rfl)) ?_
      refine sv (v := .bool (decide (((isa_formOf.m a0.Op).1) = 5))) rfl rfl rfl (e_assign (tm rfl rfl)) ?_
      refine k_nil ?_
      refine k_if (tm rfl rfl) (fun h_27 => ?_) (fun h_27 => ?_)
      · have H := ift h_27 H
        refine k_region ?_
        refine sv (v := .int .u32 ((isa_formOf.m a0.Op).2)) rfl rfl rfl (e_move (tm rfl rfl)) ?_
        refine sv (v := .int .u32 ((((a0.T) % 4294967296) * 2097152) % 4294967296)) rfl rfl rfl (e_move (tm rfl rfl)) ?_
        refine sv (v := .int .u32 ((((a0.A) % 4294967296) * 65536) % 4294967296)) rfl rfl rfl (e_move (tm rfl rfl)) ?_
        refine sv (v := .int .u32 (bits .or .u32 ((((a0.T) % 4294967296) * 2097152) % 4294967296) ((((a0.A) % 4294967296) * 65536) % 4294967296))) rfl rfl rfl (e_bin (tm rfl rfl) (tm rfl rfl) (r_bits (by simp) rfl)) ?_
        refine sv (v := .int .u32 ((a0.Imm) % 4294967296)) rfl rfl rfl (e_move (tm rfl rfl)) ?_
        refine sv (v := .int .u32 (bits .and .u32 ((a0.Imm) % 4294967296) 65532)) rfl rfl rfl (e_bin (tm rfl rfl) rfl (r_bits (by simp) rfl)) ?_
        refine sv (v := .int .u32 (bits .or .u32 (bits .or .u32 ((((a0.T) % 4294967296) * 2097152) % 4294967296) ((((a0.A) % 4294967296) * 65536) % 4294967296)) (bits .and .u32 ((a0.Imm) % 4294967296) 65532))) rfl rfl rfl (e_bin (tm rfl rfl) (tm rfl rfl) (r_bits (by simp) rfl)) ?_
        refine sv (v := .int .u32 (bits .or .u32 ((isa_formOf.m a0.Op).2) (bits .or .u32 (bits .or .u32 ((((a0.T) % 4294967296) * 2097152) % 4294967296) ((((a0.A) % 4294967296) * 65536) % 4294967296)) (bits .and .u32 ((a0.Imm) % 4294967296) 65532)))) rfl rfl rfl (e_bin (tm rfl rfl) (tm rfl rfl) (r_bits (by simp) rfl)) ?_
        refine sv (v := .int .u32 (bits .or .u32 ((isa_formOf.m a0.Op).2) (bits .or .u32 (bits .or .u32 ((((a0.T) % 4294967296) * 2097152) % 4294967296) ((((a0.A) % 4294967296) * 65536) % 4294967296)) (bits .and .u32 ((a0.Imm) % 4294967296) 65532)))) rfl rfl rfl (e_assign (tm rfl rfl)) ?_
        refine k_nil ?_
        obtain rfl := Option.some.inj H
        exact ⟨_, seenF ⟨rfl, trivial⟩, hp_20.pick [] (by decide) rfl⟩
      have H := iff_ h_27 H
      refine k_seq ?_
      refine k_region ?_
      refine sv (v := .bool (decide (((isa_formOf.m a0.Op).1) = 6))) rfl rfl rfl (e_bin (tm rfl rfl) rfl (r_eql rfl)) ?_
      refine sv (v := .bool (decide (((isa_formOf.m a0.Op).1) = 6))) rfl rfl rfl (e_assign (tm rfl rfl)) ?_
      refine k_nil ?_
      refine k_if (tm rfl rfl) (fun h_28 => ?_) (fun h_28 => ?_)
      · have H := ift h_28 H
        refine k_region ?_
        refine sv (v := .int .u32 ((isa_formOf.m a0.Op).2)) rfl rfl rfl (e_move (tm rfl rfl)) ?_
        refine sv (v := .int .u32 ((((a0.A) % 4294967296) * 65536) % 4294967296)) rfl rfl rfl (e_move (tm rfl rfl)) ?_
        refine sv (v := .int .u32 ((((a0.B) % 4294967296) * 2048) % 4294967296)) rfl rfl rfl (e_move (tm rfl rfl)) ?_
        refine sv (v := .int .u32 (bits .or .u32 ((((a0.A) % 4294967296) * 65536) % 4294967296) ((((a0.B) % 4294967296) * 2048) % 4294967296))) rfl rfl rfl (e_bin (tm rfl rfl) (tm rfl rfl) (r_bits (by simp) rfl)) ?_
        refine sv (v := .int .u32 (bits .or .u32 ((isa_formOf.m a0.Op).2) (bits .or .u32 ((((a0.A) % 4294967296) * 65536) % 4294967296) ((((a0.B) % 4294967296) * 2048) % 4294967296)))) rfl rfl rfl (e_bin (tm rfl rfl) (tm rfl rfl) (r_bits (by simp) rfl)) ?_
        refine sv (v := .int .u32 (bits .or .u32 ((isa_formOf.m a0.Op).2) (bits .or .u32 ((((a0.A) % 4294967296) * 65536) % 4294967296) ((((a0.B) % 4294967296) * 2048) % 4294967296)))) rfl rfl rfl (e_assign (tm rfl rfl)) ?_
        refine k_nil ?_
        obtain rfl := Option.some.inj H
        exact ⟨_, seenF ⟨rfl, trivial⟩, hp_20.pick [] (by decide) rfl⟩
      have H := iff_ h_28 H
      refine k_seq ?_
      refine k_region ?_
      refine sv (v := .bool (decide (((isa_formOf.m a0.Op).1) = 7))) rfl rfl rfl (e_bin (tm rfl rfl) rfl (r_eql rfl)) ?_
      refine sv (v := .bool (decide (((isa_formOf.m a0.Op).1) = 7))) rfl rfl rfl (e_assign (tm rfl rfl)) ?_
      refine k_nil ?_
      refine k_if (tm rfl rfl) (fun h_29 => ?_) (fun h_29 => ?_)
      · have H := ift h_29 H
        refine k_region ?_
        refine sv (v := .int .u32 ((isa_formOf.m a0.Op).2)) rfl rfl rfl (e_move (tm rfl rfl)) ?_
        refine sv (v := .int .u32 ((((a0.A) % 4294967296) * 65536) % 4294967296)) rfl rfl rfl (e_move (tm rfl rfl)) ?_
        refine sv (v := .int .u32 ((a0.Imm) % 4294967296)) rfl rfl rfl (e_move (tm rfl rfl)) ?_
        refine sv (v := .int .u32 (bits .and .u32 ((a0.Imm) % 4294967296) 65535)) rfl rfl rfl (e_bin (tm rfl rfl) rfl (r_bits (by simp) rfl)) ?_
        refine sv (v := .int .u32 (bits .or .u32 ((((a0.A) % 4294967296) * 65536) % 4294967296) (bits .and .u32 ((a0.Imm) % 4294967296) 65535))) rfl rfl rfl (e_bin (tm rfl rfl) (tm rfl rfl) (r_bits (by simp) rfl)) ?_
        refine sv (v := .int .u32 (bits .or .u32 ((isa_formOf.m a0.Op).2) (bits .or .u32 ((((a0.A) % 4294967296) * 65536) % 4294967296) (bits .and .u32 ((a0.Imm) % 4294967296) 65535)))) rfl rfl rfl (e_bin (tm rfl rfl) (tm rfl rfl) (r_bits (by simp) rfl)) ?_
        refine sv (v := .int .u32 (bits .or .u32 ((isa_formOf.m a0.Op).2) (bits .or .u32 ((((a0.A) % 4294967296) * 65536) % 4294967296) (bits .and .u32 ((a0.Imm) % 4294967296) 65535)))) rfl rfl rfl (e_assign (tm rfl rfl)) ?_
        refine k_nil ?_
        obtain rfl := Option.some.inj H
        exact ⟨_, seenF ⟨rfl, trivial⟩, hp_20.pick [] (by decide) rfl⟩
      have H := iff_ h_29 H
      refine k_seq ?_
      refine k_region ?_
      refine sv (v := .bool (decide (((isa_formOf.m a0.Op).1) = 8))) rfl rfl rfl (e_bin (tm rfl rfl) rfl (r_eql rfl)) ?_
      refine sv (v := .bool (decide (((isa_formOf.m a0.Op).1) = 8))) rfl rfl rfl (e_assign (tm rfl rfl)) ?_
      refine k_nil ?_
      refine k_if (tm rfl rfl) (fun h_30 => ?_) (fun h_30 => ?_)
      · have H := ift h_30 H
        refine k_region ?_
        refine sv (v := .int .u32 ((isa_formOf.m a0.Op).2)) rfl rfl rfl (e_move (tm rfl rfl)) ?_
        refine sv (v := .pointer (some ⟨b_1, 1, none⟩)) rfl rfl rfl (e_fieldAddr (tm rfl rfl) Try.runUnderlying44 rfl Try.sizeOf3 rfl rfl) ?_
        refine sv (v := .int .i64 a0.T) rfl rfl rfl (e_load1 (tm rfl rfl) Try.isAgg3 (cell_atL (hp_20.get (i := 0) (j := 0) rfl rfl) rfl)) ?_
        refine s_call (.cons (tm rfl rfl) .nil) Try.call33 (isa_cond.calls a0.T _) rfl ?_
        rintro v_ w_34 ⟨rfl, af_37⟩
        have hp_35 := Hp.callA af_37 hp_20
        refine sv (v := .int .u32 ((a0.Imm) % 4294967296)) rfl rfl rfl (e_move (tm rfl rfl)) ?_
        refine sv (v := .int .u32 (bits .and .u32 ((a0.Imm) % 4294967296) 65532)) rfl rfl rfl (e_bin (tm rfl rfl) rfl (r_bits (by simp) rfl)) ?_
        refine sv (v := .int .u32 (bits .or .u32 (isa_cond.m a0.T) (bits .and .u32 ((a0.Imm) % 4294967296) 65532))) rfl rfl rfl (e_bin (tm rfl rfl) (tm rfl rfl) (r_bits (by simp) rfl)) ?_
        refine sv (v := .int .u32 (bits .or .u32 ((isa_formOf.m a0.Op).2) (bits .or .u32 (isa_cond.m a0.T) (bits .and .u32 ((a0.Imm) % 4294967296) 65532)))) rfl rfl rfl (e_bin (tm rfl rfl) (tm rfl rfl) (r_bits (by simp) rfl)) ?_
        refine sv (v := .int .u32 (bits .or .u32 ((isa_formOf.m a0.Op).2) (bits .or .u32 (isa_cond.m a0.T) (bits .and .u32 ((a0.Imm) % 4294967296) 65532)))) rfl rfl rfl (e_assign (tm rfl rfl)) ?_
        refine k_nil ?_
        obtain rfl := Option.some.inj H
        exact ⟨_, seenF ⟨rfl, trivial⟩, hp_35.pick [] (by decide) rfl⟩
      have H := iff_ h_30 H
      refine k_seq ?_
      refine k_region ?_
      refine sv (v := .bool (decide (((isa_formOf.m a0.Op).1) = 9))) rfl rfl rfl (e_bin (tm rfl rfl) rfl (r_eql rfl)) ?_
      refine sv (v := .bool (decide (((isa_formOf.m a0.Op).1) = 9))) rfl rfl rfl (e_assign (tm rfl rfl)) ?_
      refine k_nil ?_
      refine k_if (tm rfl rfl) (fun h_38 => ?_) (fun h_38 => ?_)
      · have H := ift h_38 H
        refine k_region ?_
        refine sv (v := .int .u32 ((isa_formOf.m a0.Op).2)) rfl rfl rfl (e_move (tm rfl rfl)) ?_
        refine sv (v := .int .u32 ((a0.Imm) % 4294967296)) rfl rfl rfl (e_move (tm rfl rfl)) ?_
        refine sv (v := .int .u32 (bits .and .u32 ((a0.Imm) % 4294967296) 67108860)) rfl rfl rfl (e_bin (tm rfl rfl) rfl (r_bits (by simp) rfl)) ?_
        refine sv (v := .int .u32 (bits .or .u32 ((isa_formOf.m a0.Op).2) (bits .and .u32 ((a0.Imm) % 4294967296) 67108860))) rfl rfl rfl (e_bin (tm rfl rfl) (tm rfl rfl) (r_bits (by simp) rfl)) ?_
        refine sv (v := .int .u32 (bits .or .u32 ((isa_formOf.m a0.Op).2) (bits .and .u32 ((a0.Imm) % 4294967296) 67108860))) rfl rfl rfl (e_assign (tm rfl rfl)) ?_
        refine k_nil ?_
        obtain rfl := Option.some.inj H
        exact ⟨_, seenF ⟨rfl, trivial⟩, hp_20.pick [] (by decide) rfl⟩
      have H := iff_ h_38 H
      refine k_skip ?_
      obtain rfl := Option.some.inj H
      exact ⟨_, seenF ⟨rfl, trivial⟩, hp_20.pick [] (by decide) rfl⟩
  clear H
  rintro a w' ⟨σ_39, rfl, hp_40⟩
  have H := G_22
  refine k_seq ?_
  refine k_region ?_
  refine sv (v := .int .u32 o_21) rfl rfl rfl (e_move (tm rfl rfl)) ?_
  refine sv (v := .int .u32 o_21) rfl rfl rfl (e_assign (tm rfl rfl)) ?_
  refine sv (v := .int .i64 0) rfl rfl rfl (e_assign rfl) ?_
  refine k_nil ?_
  refine k_ret ?_
  obtain rfl := Option.some.inj H
  exact k_end rfl (.tmp rfl rfl (.tmp rfl rfl .nil)) rfl ⟨rfl, (hp_40).aft⟩

end Go.Proofs.Ytcnchjlomcafeaa.W

/- Functions of the program as plain Lean functions, and that the calls do what they say: written by wip/tools/walk.py. -/
import Derived.Test.YtallojficgiemaaTy
import Derived.Test.YtallojficgiemaaF0
import Derived.Test.YtallojficgiemaaF1
import Derived.Test.YtallojficgiemaaF2
import Derived.Test.YtallojficgiemaaF3
import Derived.Test.YtallojficgiemaaF4
set_option linter.unusedVariables false
set_option linter.unusedSimpArgs false
set_option linter.unusedSectionVars false
namespace Go.Proofs.Ytallojficgiemaa.W
open Go Go.RowKit Go.Proofs.Ytallojficgiemaa.B
attribute [local irreducible] Go.wpList Go.Code.wp Go.Region.wanted Go.yielded
/-! ### selvage/isa.Encode: function 8 -/
def isa_Encode.m (a0 : api_Inst) : Option (Int × Int) := (isa_check.m ((isa_formOf.m a0.Op).1) a0).bind fun r10 => (if (!decide (r10 = 0)) = true then (some (0, r10)) else ((if (decide (((isa_formOf.m a0.Op).1) = 1)) = true then (some (bits .or .u32 ((isa_formOf.m a0.Op).2) (bits .or .u32 (bits .or .u32 ((((a0.T) % 4294967296) * 2097152) % 4294967296) ((((a0.A) % 4294967296) * 65536) % 4294967296)) (bits .and .u32 ((a0.Imm) % 4294967296) 65535)))) else (if (decide (((isa_formOf.m a0.Op).1) = 2)) = true then (some (bits .or .u32 ((isa_formOf.m a0.Op).2) (bits .or .u32 (bits .or .u32 ((((a0.A) % 4294967296) * 2097152) % 4294967296) ((((a0.T) % 4294967296) * 65536) % 4294967296)) ((a0.Imm) % 4294967296)))) else (if (decide (((isa_formOf.m a0.Op).1) = 3)) = true then (some (bits .or .u32 ((isa_formOf.m a0.Op).2) (bits .or .u32 (bits .or .u32 (bits .or .u32 (bits .or .u32 (bits .or .u32 ((((a0.A) % 4294967296) * 2097152) % 4294967296) ((((a0.T) % 4294967296) * 65536) % 4294967296)) (((bits .and .u32 ((a0.Imm) % 4294967296) 31) * 2048) % 4294967296)) (((bits .and .u32 ((63 - ((a0.Imm) % 4294967296)) % 4294967296) 31) * 64) % 4294967296)) (((((63 - ((a0.Imm) % 4294967296)) % 4294967296) / 32) * 32) % 4294967296)) (((((a0.Imm) % 4294967296) / 32) * 2) % 4294967296)))) else (if (decide (((isa_formOf.m a0.Op).1) = 4)) = true then (some (bits .or .u32 ((isa_formOf.m a0.Op).2) (bits .or .u32 (bits .or .u32 ((((a0.T) % 4294967296) * 2097152) % 4294967296) ((((a0.A) % 4294967296) * 65536) % 4294967296)) ((((a0.B) % 4294967296) * 2048) % 4294967296)))) else (if (decide (((isa_formOf.m a0.Op).1) = 5)) = true then (some (bits .or .u32 ((isa_formOf.m a0.Op).2) (bits .or .u32 (bits .or .u32 ((((a0.T) % 4294967296) * 2097152) % 4294967296) ((((a0.A) % 4294967296) * 65536) % 4294967296)) (bits .and .u32 ((a0.Imm) % 4294967296) 65532)))) else (if (decide (((isa_formOf.m a0.Op).1) = 6)) = true then (some (bits .or .u32 ((isa_formOf.m a0.Op).2) (bits .or .u32 ((((a0.A) % 4294967296) * 65536) % 4294967296) ((((a0.B) % 4294967296) * 2048) % 4294967296)))) else (if (decide (((isa_formOf.m a0.Op).1) = 7)) = true then (some (bits .or .u32 ((isa_formOf.m a0.Op).2) (bits .or .u32 ((((a0.A) % 4294967296) * 65536) % 4294967296) (bits .and .u32 ((a0.Imm) % 4294967296) 65535)))) else (if (decide (((isa_formOf.m a0.Op).1) = 8)) = true then (some (bits .or .u32 ((isa_formOf.m a0.Op).2) (bits .or .u32 (isa_cond.m a0.T) (bits .and .u32 ((a0.Imm) % 4294967296) 65532)))) else (if (decide (((isa_formOf.m a0.Op).1) = 9)) = true then (some (bits .or .u32 ((isa_formOf.m a0.Op).2) (bits .and .u32 ((a0.Imm) % 4294967296) 67108860))) else (some ((isa_formOf.m a0.Op).2))))))))))).bind fun o196 => (some (o196, 0))))
set_option maxHeartbeats 4000000 in
set_option maxRecDepth 100000 in
theorem isa_Encode.calls (a0 : api_Inst) (r : Int × Int) (w : World) (H : isa_Encode.m a0 = some r) :
    Ret Try.prog 8 [.agg #[.int .i64 a0.Op, .int .i64 a0.T, .int .i64 a0.A, .int .i64 a0.B, .int .i64 a0.Imm]] w fun v w' => v = .tuple #[.int .u32 r.1, .int .i64 r.2] ∧ Below w.heap.size w w' := by
  unfold isa_Encode.m at H
  have hp0 := Hp.start w
  refine enter (L := [(0, .agg #[.int .i64 a0.Op, .int .i64 a0.T, .int .i64 a0.A, .int .i64 a0.B, .int .i64 a0.Imm])]) Try.func8 rfl Try.ntmps8 rfl rfl ?_
  refine k_seq ?_
  refine k_region ?_
  refine s_box hp0 (tm rfl rfl) rfl rfl (fun b1 w2 hp3 => ?_)
  refine sv (v := .int .u32 0) rfl rfl rfl (e_assign rfl) ?_
  refine sv (v := .int .i64 0) rfl rfl rfl (e_assign rfl) ?_
  refine k_nil ?_
  refine k_seq ?_
  refine k_region ?_
  refine sv (v := .pointer (some ⟨b1, 0, none⟩)) rfl rfl rfl (e_fieldAddr (tm rfl rfl) Try.runUnderlying23 rfl Try.sizeOf3 rfl rfl) ?_
  refine sv (v := .int .i64 a0.Op) rfl rfl rfl (e_load1 (tm rfl rfl) Try.isAgg3 (cell_at (hp3.get (i := 0) (j := 0) rfl rfl) rfl)) ?_
  refine s_call (.cons (tm rfl rfl) .nil) Try.call12 (isa_formOf.calls a0.Op _) rfl ?_
  rintro v_ w4 ⟨rfl, hb5⟩
  have hp6 := hp3.grow hb5
  refine sv (v := .tuple #[.int .i64 ((isa_formOf.m a0.Op).1), .int .u32 ((isa_formOf.m a0.Op).2)]) rfl rfl rfl (e_move (tm rfl rfl)) ?_
  refine sv (v := .int .i64 ((isa_formOf.m a0.Op).1)) rfl rfl rfl (e_extract (tm rfl rfl) rfl) ?_
  refine sv (v := .int .u32 ((isa_formOf.m a0.Op).2)) rfl rfl rfl (e_extract (tm rfl rfl) rfl) ?_
  refine sv (v := .int .i64 ((isa_formOf.m a0.Op).1)) rfl rfl rfl (e_assign (tm rfl rfl)) ?_
  refine sv (v := .int .u32 ((isa_formOf.m a0.Op).2)) rfl rfl rfl (e_assign (tm rfl rfl)) ?_
  refine k_nil ?_
  refine k_seq ?_
  refine k_seq ?_
  refine k_region ?_
  refine sv (v := .int .i64 ((isa_formOf.m a0.Op).1)) rfl rfl rfl (e_move (tm rfl rfl)) ?_
  refine sv (v := .agg #[.int .i64 a0.Op, .int .i64 a0.T, .int .i64 a0.A, .int .i64 a0.B, .int .i64 a0.Imm]) rfl rfl rfl (e_loadA (tm rfl rfl) Try.isAgg23 Try.sizeOf23 rfl (cells_box (sz := 5) (hp6.get (i := 0) (j := 0) rfl rfl) rfl)) ?_
  obtain ⟨r10, hx216, H⟩ := bindSome H
  refine s_call (.cons (tm rfl rfl) (.cons (tm rfl rfl) .nil)) Try.call13 (isa_check.calls ((isa_formOf.m a0.Op).1) a0 r10 _ hx216) rfl ?_
  rintro v_ w7 ⟨rfl, hb8⟩
  have hp9 := hp6.grow hb8
  refine sv (v := .int .i64 r10) rfl rfl rfl (e_assign (tm rfl rfl)) ?_
  refine k_nil ?_
  refine k_seq ?_
  refine k_region ?_
  refine sv (v := .int .i64 r10) rfl rfl rfl (e_move (tm rfl rfl)) ?_
  refine sv (v := .bool (!decide (r10 = 0))) rfl rfl rfl (e_bin (tm rfl rfl) rfl (r_neq rfl)) ?_
  refine k_nil ?_
  refine k_if (tm rfl rfl) (fun h11 => ?_) (fun h11 => ?_)
  · have H := ift h11 H
    refine k_seq ?_
    refine k_region ?_
    refine sv (v := .int .i64 r10) rfl rfl rfl (e_move (tm rfl rfl)) ?_
    refine sv (v := .int .u32 0) rfl rfl rfl (e_assign rfl) ?_
    refine sv (v := .int .i64 r10) rfl rfl rfl (e_assign (tm rfl rfl)) ?_
    refine k_nil ?_
    refine k_ret ?_
    obtain rfl := Option.some.inj H
    exact k_end rfl (.tmp rfl rfl (.tmp rfl rfl .nil)) rfl ⟨rfl, hp9.below⟩
  have H := iff_ h11 H
  refine k_skip ?_
  refine k_seq ?_
  refine k_drawn [(1, .pointer (some ⟨b1, 0, none⟩)), (4, .int .i64 ((isa_formOf.m a0.Op).1)), (5, .int .u32 ((isa_formOf.m a0.Op).2))] 18 [⟨24, fun v w' => v = .pointer (some ⟨b1, 1, none⟩)⟩, ⟨25, fun v w' => v = .int .i64 a0.T⟩, ⟨26, fun v w' => v = .int .u32 ((a0.T) % 4294967296)⟩, ⟨27, fun v w' => v = .int .u32 ((((a0.T) % 4294967296) * 2097152) % 4294967296)⟩, ⟨28, fun v w' => v = .pointer (some ⟨b1, 2, none⟩)⟩, ⟨29, fun v w' => v = .int .i64 a0.A⟩, ⟨30, fun v w' => v = .int .u32 ((a0.A) % 4294967296)⟩, ⟨31, fun v w' => v = .int .u32 ((((a0.A) % 4294967296) * 65536) % 4294967296)⟩, ⟨32, fun v w' => v = .pointer (some ⟨b1, 3, none⟩)⟩, ⟨33, fun v w' => v = .int .i64 a0.B⟩, ⟨34, fun v w' => v = .int .u32 ((a0.B) % 4294967296)⟩, ⟨35, fun v w' => v = .int .u32 ((((a0.B) % 4294967296) * 2048) % 4294967296)⟩, ⟨36, fun v w' => v = .pointer (some ⟨b1, 4, none⟩)⟩, ⟨37, fun v w' => v = .int .i64 a0.Imm⟩, ⟨38, fun v w' => v = .int .u32 ((a0.Imm) % 4294967296)⟩, ⟨7, fun v w' => v = .int .u32 ((((a0.T) % 4294967296) * 2097152) % 4294967296)⟩, ⟨8, fun v w' => v = .int .u32 ((((a0.A) % 4294967296) * 65536) % 4294967296)⟩, ⟨9, fun v w' => v = .int .u32 ((((a0.B) % 4294967296) * 2048) % 4294967296)⟩] ⟨rfl, rfl, rfl, trivial⟩ mixed rfl rfl rfl (by kernel_rfl) (by kernel_rfl) ?_ ?_
  · refine .cons [] rfl rfl rfl (by kernel_rfl) ?_ ?_
    · rintro σ17 w12 hb13 -
      have hp15 := hp9.grow hb13
      have hp16 := Hp.start w12
      refine sv (v := .pointer (some ⟨b1, 1, none⟩)) rfl rfl rfl (e_fieldAddr (tm rfl rfl) Try.runUnderlying23 rfl Try.sizeOf3 rfl rfl) ?_
      refine k_nil ?_
      exact ⟨_, rfl, below_refl _, rfl⟩
    refine .cons [0] rfl rfl rfl (by kernel_rfl) ?_ ?_
    · rintro σ23 w18 hb19 ⟨⟨u24, hu25, hv26, f27⟩, -⟩
      have hp21 := hp9.grow hb19
      have hp22 := Hp.start w18
      refine sv (v := .int .i64 a0.T) rfl rfl rfl (e_load1 (tm rfl f27) Try.isAgg3 (cell_at (hp21.get (i := 0) (j := 0) rfl rfl) rfl)) ?_
      refine k_nil ?_
      exact ⟨_, rfl, below_refl _, rfl⟩
    refine .cons [1] rfl rfl rfl (by kernel_rfl) ?_ ?_
    · rintro σ33 w28 hb29 ⟨⟨u34, hu35, hv36, f37⟩, -⟩
      have hp31 := hp9.grow hb29
      have hp32 := Hp.start w28
      refine sv (v := .int .u32 ((a0.T) % 4294967296)) rfl rfl rfl (e_conv (tm rfl f37) Try.runUnderlying3 Try.runUnderlying25 (wrap_u32 _)) ?_
      refine k_nil ?_
      exact ⟨_, rfl, below_refl _, rfl⟩
    refine .cons [2] rfl rfl rfl (by kernel_rfl) ?_ ?_
    · rintro σ43 w38 hb39 ⟨⟨u44, hu45, hv46, f47⟩, -⟩
      have hp41 := hp9.grow hb39
      have hp42 := Hp.start w38
      refine sv (v := .int .u32 ((((a0.T) % 4294967296) * 2097152) % 4294967296)) rfl rfl rfl (e_bin (tm rfl f47) rfl (r_shl (by decide) (wrap_u32 _))) ?_
      refine k_nil ?_
      exact ⟨_, rfl, below_refl _, rfl⟩
    refine .cons [] rfl rfl rfl (by kernel_rfl) ?_ ?_
    · rintro σ53 w48 hb49 -
      have hp51 := hp9.grow hb49
      have hp52 := Hp.start w48
      refine sv (v := .pointer (some ⟨b1, 2, none⟩)) rfl rfl rfl (e_fieldAddr (tm rfl rfl) Try.runUnderlying23 rfl Try.sizeOf3 rfl rfl) ?_
      refine k_nil ?_
      exact ⟨_, rfl, below_refl _, rfl⟩
    refine .cons [4] rfl rfl rfl (by kernel_rfl) ?_ ?_
    · rintro σ59 w54 hb55 ⟨⟨u60, hu61, hv62, f63⟩, -⟩
      have hp57 := hp9.grow hb55
      have hp58 := Hp.start w54
      refine sv (v := .int .i64 a0.A) rfl rfl rfl (e_load1 (tm rfl f63) Try.isAgg3 (cell_at (hp57.get (i := 0) (j := 0) rfl rfl) rfl)) ?_
      refine k_nil ?_
      exact ⟨_, rfl, below_refl _, rfl⟩
    refine .cons [5] rfl rfl rfl (by kernel_rfl) ?_ ?_
    · rintro σ69 w64 hb65 ⟨⟨u70, hu71, hv72, f73⟩, -⟩
      have hp67 := hp9.grow hb65
      have hp68 := Hp.start w64
      refine sv (v := .int .u32 ((a0.A) % 4294967296)) rfl rfl rfl (e_conv (tm rfl f73) Try.runUnderlying3 Try.runUnderlying25 (wrap_u32 _)) ?_
      refine k_nil ?_
      exact ⟨_, rfl, below_refl _, rfl⟩
    refine .cons [6] rfl rfl rfl (by kernel_rfl) ?_ ?_
    · rintro σ79 w74 hb75 ⟨⟨u80, hu81, hv82, f83⟩, -⟩
      have hp77 := hp9.grow hb75
      have hp78 := Hp.start w74
      refine sv (v := .int .u32 ((((a0.A) % 4294967296) * 65536) % 4294967296)) rfl rfl rfl (e_bin (tm rfl f83) rfl (r_shl (by decide) (wrap_u32 _))) ?_
      refine k_nil ?_
      exact ⟨_, rfl, below_refl _, rfl⟩
    refine .cons [] rfl rfl rfl (by kernel_rfl) ?_ ?_
    · rintro σ89 w84 hb85 -
      have hp87 := hp9.grow hb85
      have hp88 := Hp.start w84
      refine sv (v := .pointer (some ⟨b1, 3, none⟩)) rfl rfl rfl (e_fieldAddr (tm rfl rfl) Try.runUnderlying23 rfl Try.sizeOf3 rfl rfl) ?_
      refine k_nil ?_
      exact ⟨_, rfl, below_refl _, rfl⟩
    refine .cons [8] rfl rfl rfl (by kernel_rfl) ?_ ?_
    · rintro σ95 w90 hb91 ⟨⟨u96, hu97, hv98, f99⟩, -⟩
      have hp93 := hp9.grow hb91
      have hp94 := Hp.start w90
      refine sv (v := .int .i64 a0.B) rfl rfl rfl (e_load1 (tm rfl f99) Try.isAgg3 (cell_at (hp93.get (i := 0) (j := 0) rfl rfl) rfl)) ?_
      refine k_nil ?_
      exact ⟨_, rfl, below_refl _, rfl⟩
    refine .cons [9] rfl rfl rfl (by kernel_rfl) ?_ ?_
    · rintro σ105 w100 hb101 ⟨⟨u106, hu107, hv108, f109⟩, -⟩
      have hp103 := hp9.grow hb101
      have hp104 := Hp.start w100
      refine sv (v := .int .u32 ((a0.B) % 4294967296)) rfl rfl rfl (e_conv (tm rfl f109) Try.runUnderlying3 Try.runUnderlying25 (wrap_u32 _)) ?_
      refine k_nil ?_
      exact ⟨_, rfl, below_refl _, rfl⟩
    refine .cons [10] rfl rfl rfl (by kernel_rfl) ?_ ?_
    · rintro σ115 w110 hb111 ⟨⟨u116, hu117, hv118, f119⟩, -⟩
      have hp113 := hp9.grow hb111
      have hp114 := Hp.start w110
      refine sv (v := .int .u32 ((((a0.B) % 4294967296) * 2048) % 4294967296)) rfl rfl rfl (e_bin (tm rfl f119) rfl (r_shl (by decide) (wrap_u32 _))) ?_
      refine k_nil ?_
      exact ⟨_, rfl, below_refl _, rfl⟩
    refine .cons [] rfl rfl rfl (by kernel_rfl) ?_ ?_
    · rintro σ125 w120 hb121 -
      have hp123 := hp9.grow hb121
      have hp124 := Hp.start w120
      refine sv (v := .pointer (some ⟨b1, 4, none⟩)) rfl rfl rfl (e_fieldAddr (tm rfl rfl) Try.runUnderlying23 rfl Try.sizeOf3 rfl rfl) ?_
      refine k_nil ?_
      exact ⟨_, rfl, below_refl _, rfl⟩
    refine .cons [12] rfl rfl rfl (by kernel_rfl) ?_ ?_
    · rintro σ131 w126 hb127 ⟨⟨u132, hu133, hv134, f135⟩, -⟩
      have hp129 := hp9.grow hb127
      have hp130 := Hp.start w126
      refine sv (v := .int .i64 a0.Imm) rfl rfl rfl (e_load1 (tm rfl f135) Try.isAgg3 (cell_at (hp129.get (i := 0) (j := 0) rfl rfl) rfl)) ?_
      refine k_nil ?_
      exact ⟨_, rfl, below_refl _, rfl⟩
    refine .cons [13] rfl rfl rfl (by kernel_rfl) ?_ ?_
    · rintro σ141 w136 hb137 ⟨⟨u142, hu143, hv144, f145⟩, -⟩
      have hp139 := hp9.grow hb137
      have hp140 := Hp.start w136
      refine sv (v := .int .u32 ((a0.Imm) % 4294967296)) rfl rfl rfl (e_conv (tm rfl f145) Try.runUnderlying3 Try.runUnderlying25 (wrap_u32 _)) ?_
      refine k_nil ?_
      exact ⟨_, rfl, below_refl _, rfl⟩
    refine .cons [3] rfl rfl rfl (by kernel_rfl) ?_ ?_
    · rintro σ151 w146 hb147 ⟨⟨u152, hu153, hv154, f155⟩, -⟩
      have hp149 := hp9.grow hb147
      have hp150 := Hp.start w146
      refine sv (v := .int .u32 ((((a0.T) % 4294967296) * 2097152) % 4294967296)) rfl rfl rfl (e_assign (tm rfl f155)) ?_
      refine k_nil ?_
      exact ⟨_, rfl, below_refl _, rfl⟩
    refine .cons [7] rfl rfl rfl (by kernel_rfl) ?_ ?_
    · rintro σ161 w156 hb157 ⟨⟨u162, hu163, hv164, f165⟩, -⟩
      have hp159 := hp9.grow hb157
      have hp160 := Hp.start w156
      refine sv (v := .int .u32 ((((a0.A) % 4294967296) * 65536) % 4294967296)) rfl rfl rfl (e_assign (tm rfl f165)) ?_
      refine k_nil ?_
      exact ⟨_, rfl, below_refl _, rfl⟩
    refine .cons [11] rfl rfl rfl (by kernel_rfl) ?_ ?_
    · rintro σ171 w166 hb167 ⟨⟨u172, hu173, hv174, f175⟩, -⟩
      have hp169 := hp9.grow hb167
      have hp170 := Hp.start w166
      refine sv (v := .int .u32 ((((a0.B) % 4294967296) * 2048) % 4294967296)) rfl rfl rfl (e_assign (tm rfl f175)) ?_
      refine k_nil ?_
      exact ⟨_, rfl, below_refl _, rfl⟩
    exact .nil
  rintro σ179 w176 hb177 ⟨-, -, -, -, -, -, -, -, -, -, -, -, -, -, ⟨u180, hu181, hv182, f183⟩, ⟨u184, hu185, hv186, f187⟩, ⟨u188, hu189, hv190, f191⟩, ⟨u192, hu193, hv194, f195⟩, -⟩
  have hp178 := hp9.grow hb177
  refine seenR [(38, .int .u32 ((a0.Imm) % 4294967296)), (7, .int .u32 ((((a0.T) % 4294967296) * 2097152) % 4294967296)), (8, .int .u32 ((((a0.A) % 4294967296) * 65536) % 4294967296)), (9, .int .u32 ((((a0.B) % 4294967296) * 2048) % 4294967296)), (1, .pointer (some ⟨b1, 0, none⟩)), (4, .int .i64 ((isa_formOf.m a0.Op).1)), (5, .int .u32 ((isa_formOf.m a0.Op).2))] ⟨f183, f187, f191, f195, rfl, rfl, rfl, trivial⟩ ?_
  refine sv (v := .int .u32 ((a0.Imm) % 4294967296)) rfl rfl rfl (e_assign (tm rfl rfl)) ?_
  refine k_nil ?_
  refine k_seq ?_
  refine k_seq ?_
  refine k_region ?_
  refine sv (v := .int .i64 ((isa_formOf.m a0.Op).1)) rfl rfl rfl (e_move (tm rfl rfl)) ?_
  refine k_nil ?_
  obtain ⟨o196, H, G197⟩ := bindSome H
  refine k_cut (fun a w' => ∃ (σ219 : Nat → Value), a = st 147 [(5, .int .u32 o196)] σ219 [] ∧ Hp0 w w' []) ?_ ?_
  · refine k_block ?_
    refine k_seq ?_
    refine k_region ?_
    refine sv (v := .bool (decide (((isa_formOf.m a0.Op).1) = 1))) rfl rfl rfl (e_bin (tm rfl rfl) rfl (r_eql rfl)) ?_
    refine sv (v := .bool (decide (((isa_formOf.m a0.Op).1) = 1))) rfl rfl rfl (e_assign (tm rfl rfl)) ?_
    refine k_nil ?_
    refine k_if (tm rfl rfl) (fun h198 => ?_) (fun h198 => ?_)
    · have H := ift h198 H
      refine k_region ?_
      refine sv (v := .int .u32 ((isa_formOf.m a0.Op).2)) rfl rfl rfl (e_move (tm rfl rfl)) ?_
      refine sv (v := .int .u32 ((((a0.T) % 4294967296) * 2097152) % 4294967296)) rfl rfl rfl (e_move (tm rfl rfl)) ?_
      refine sv (v := .int .u32 ((((a0.A) % 4294967296) * 65536) % 4294967296)) rfl rfl rfl (e_move (tm rfl rfl)) ?_
      refine sv (v := .int .u32 (bits .or .u32 ((((a0.T) % 4294967296) * 2097152) % 4294967296) ((((a0.A) % 4294967296) * 65536) % 4294967296))) rfl rfl rfl (e_bin (tm rfl rfl) (tm rfl rfl) (r_bits (by simp) rfl)) ?_
      refine sv (v := .int .u32 ((a0.Imm) % 4294967296)) rfl rfl rfl (e_move (tm rfl rfl)) ?_
      refine sv (v := .int .u32 (bits .and .u32 ((a0.Imm) % 4294967296) 65535)) rfl rfl rfl (e_bin (tm rfl rfl) rfl (r_bits (by simp) rfl)) ?_
      refine sv (v := .int .u32 (bits .or .u32 (bits .or .u32 ((((a0.T) % 4294967296) * 2097152) % 4294967296) ((((a0.A) % 4294967296) * 65536) % 4294967296)) (bits .and .u32 ((a0.Imm) % 4294967296) 65535))) rfl rfl rfl (e_bin (tm rfl rfl) (tm rfl rfl) (r_bits (by simp) rfl)) ?_
      refine sv (v := .int .u32 (bits .or .u32 ((isa_formOf.m a0.Op).2) (bits .or .u32 (bits .or .u32 ((((a0.T) % 4294967296) * 2097152) % 4294967296) ((((a0.A) % 4294967296) * 65536) % 4294967296)) (bits .and .u32 ((a0.Imm) % 4294967296) 65535)))) rfl rfl rfl (e_bin (tm rfl rfl) (tm rfl rfl) (r_bits (by simp) rfl)) ?_
      refine sv (v := .int .u32 (bits .or .u32 ((isa_formOf.m a0.Op).2) (bits .or .u32 (bits .or .u32 ((((a0.T) % 4294967296) * 2097152) % 4294967296) ((((a0.A) % 4294967296) * 65536) % 4294967296)) (bits .and .u32 ((a0.Imm) % 4294967296) 65535)))) rfl rfl rfl (e_assign (tm rfl rfl)) ?_
      refine k_nil ?_
      obtain rfl := Option.some.inj H
      exact ⟨_, seenF ⟨rfl, trivial⟩, hp178.pick [] (by decide) rfl⟩
    have H := iff_ h198 H
    refine k_seq ?_
    refine k_region ?_
    refine sv (v := .bool (decide (((isa_formOf.m a0.Op).1) = 2))) rfl rfl rfl (e_bin (tm rfl rfl) rfl (r_eql rfl)) ?_
    refine sv (v := .bool (decide (((isa_formOf.m a0.Op).1) = 2))) rfl rfl rfl (e_assign (tm rfl rfl)) ?_
    refine k_nil ?_
    refine k_if (tm rfl rfl) (fun h199 => ?_) (fun h199 => ?_)
    · have H := ift h199 H
      refine k_region ?_
      refine sv (v := .int .u32 ((isa_formOf.m a0.Op).2)) rfl rfl rfl (e_move (tm rfl rfl)) ?_
      refine sv (v := .pointer (some ⟨b1, 2, none⟩)) rfl rfl rfl (e_fieldAddr (tm rfl rfl) Try.runUnderlying23 rfl Try.sizeOf3 rfl rfl) ?_
      refine sv (v := .int .i64 a0.A) rfl rfl rfl (e_load1 (tm rfl rfl) Try.isAgg3 (cell_at (hp178.get (i := 0) (j := 0) rfl rfl) rfl)) ?_
      refine sv (v := .int .u32 ((a0.A) % 4294967296)) rfl rfl rfl (e_conv (tm rfl rfl) Try.runUnderlying3 Try.runUnderlying25 (wrap_u32 _)) ?_
      refine sv (v := .int .u32 ((((a0.A) % 4294967296) * 2097152) % 4294967296)) rfl rfl rfl (e_bin (tm rfl rfl) rfl (r_shl (by decide) (wrap_u32 _))) ?_
      refine sv (v := .pointer (some ⟨b1, 1, none⟩)) rfl rfl rfl (e_fieldAddr (tm rfl rfl) Try.runUnderlying23 rfl Try.sizeOf3 rfl rfl) ?_
      refine sv (v := .int .i64 a0.T) rfl rfl rfl (e_load1 (tm rfl rfl) Try.isAgg3 (cell_at (hp178.get (i := 0) (j := 0) rfl rfl) rfl)) ?_
      refine sv (v := .int .u32 ((a0.T) % 4294967296)) rfl rfl rfl (e_conv (tm rfl rfl) Try.runUnderlying3 Try.runUnderlying25 (wrap_u32 _)) ?_
      refine sv (v := .int .u32 ((((a0.T) % 4294967296) * 65536) % 4294967296)) rfl rfl rfl (e_bin (tm rfl rfl) rfl (r_shl (by decide) (wrap_u32 _))) ?_
      refine sv (v := .int .u32 (bits .or .u32 ((((a0.A) % 4294967296) * 2097152) % 4294967296) ((((a0.T) % 4294967296) * 65536) % 4294967296))) rfl rfl rfl (e_bin (tm rfl rfl) (tm rfl rfl) (r_bits (by simp) rfl)) ?_
      refine sv (v := .int .u32 ((a0.Imm) % 4294967296)) rfl rfl rfl (e_move (tm rfl rfl)) ?_
      refine sv (v := .int .u32 (bits .or .u32 (bits .or .u32 ((((a0.A) % 4294967296) * 2097152) % 4294967296) ((((a0.T) % 4294967296) * 65536) % 4294967296)) ((a0.Imm) % 4294967296))) rfl rfl rfl (e_bin (tm rfl rfl) (tm rfl rfl) (r_bits (by simp) rfl)) ?_
      refine sv (v := .int .u32 (bits .or .u32 ((isa_formOf.m a0.Op).2) (bits .or .u32 (bits .or .u32 ((((a0.A) % 4294967296) * 2097152) % 4294967296) ((((a0.T) % 4294967296) * 65536) % 4294967296)) ((a0.Imm) % 4294967296)))) rfl rfl rfl (e_bin (tm rfl rfl) (tm rfl rfl) (r_bits (by simp) rfl)) ?_
      refine sv (v := .int .u32 (bits .or .u32 ((isa_formOf.m a0.Op).2) (bits .or .u32 (bits .or .u32 ((((a0.A) % 4294967296) * 2097152) % 4294967296) ((((a0.T) % 4294967296) * 65536) % 4294967296)) ((a0.Imm) % 4294967296)))) rfl rfl rfl (e_assign (tm rfl rfl)) ?_
      refine k_nil ?_
      obtain rfl := Option.some.inj H
      exact ⟨_, seenF ⟨rfl, trivial⟩, hp178.pick [] (by decide) rfl⟩
    have H := iff_ h199 H
    refine k_seq ?_
    refine k_region ?_
    refine sv (v := .bool (decide (((isa_formOf.m a0.Op).1) = 3))) rfl rfl rfl (e_bin (tm rfl rfl) rfl (r_eql rfl)) ?_
    refine sv (v := .bool (decide (((isa_formOf.m a0.Op).1) = 3))) rfl rfl rfl (e_assign (tm rfl rfl)) ?_
    refine k_nil ?_
    refine k_if (tm rfl rfl) (fun h200 => ?_) (fun h200 => ?_)
    · have H := ift h200 H
      refine k_seq ?_
      refine k_region ?_
      refine sv (v := .int .u32 ((a0.Imm) % 4294967296)) rfl rfl rfl (e_move (tm rfl rfl)) ?_
      refine sv (v := .int .u32 ((63 - ((a0.Imm) % 4294967296)) % 4294967296)) rfl rfl rfl (e_bin rfl (tm rfl rfl) (r_sub (wrap_u32 _))) ?_
      refine sv (v := .int .u32 ((63 - ((a0.Imm) % 4294967296)) % 4294967296)) rfl rfl rfl (e_assign (tm rfl rfl)) ?_
      refine k_nil ?_
      refine k_region ?_
      refine sv (v := .int .u32 ((isa_formOf.m a0.Op).2)) rfl rfl rfl (e_move (tm rfl rfl)) ?_
      refine sv (v := .pointer (some ⟨b1, 2, none⟩)) rfl rfl rfl (e_fieldAddr (tm rfl rfl) Try.runUnderlying23 rfl Try.sizeOf3 rfl rfl) ?_
      refine sv (v := .int .i64 a0.A) rfl rfl rfl (e_load1 (tm rfl rfl) Try.isAgg3 (cell_at (hp178.get (i := 0) (j := 0) rfl rfl) rfl)) ?_
      refine sv (v := .int .u32 ((a0.A) % 4294967296)) rfl rfl rfl (e_conv (tm rfl rfl) Try.runUnderlying3 Try.runUnderlying25 (wrap_u32 _)) ?_
      refine sv (v := .int .u32 ((((a0.A) % 4294967296) * 2097152) % 4294967296)) rfl rfl rfl (e_bin (tm rfl rfl) rfl (r_shl (by decide) (wrap_u32 _))) ?_
      refine sv (v := .pointer (some ⟨b1, 1, none⟩)) rfl rfl rfl (e_fieldAddr (tm rfl rfl) Try.runUnderlying23 rfl Try.sizeOf3 rfl rfl) ?_
      refine sv (v := .int .i64 a0.T) rfl rfl rfl (e_load1 (tm rfl rfl) Try.isAgg3 (cell_at (hp178.get (i := 0) (j := 0) rfl rfl) rfl)) ?_
      refine sv (v := .int .u32 ((a0.T) % 4294967296)) rfl rfl rfl (e_conv (tm rfl rfl) Try.runUnderlying3 Try.runUnderlying25 (wrap_u32 _)) ?_
      refine sv (v := .int .u32 ((((a0.T) % 4294967296) * 65536) % 4294967296)) rfl rfl rfl (e_bin (tm rfl rfl) rfl (r_shl (by decide) (wrap_u32 _))) ?_
      refine sv (v := .int .u32 (bits .or .u32 ((((a0.A) % 4294967296) * 2097152) % 4294967296) ((((a0.T) % 4294967296) * 65536) % 4294967296))) rfl rfl rfl (e_bin (tm rfl rfl) (tm rfl rfl) (r_bits (by simp) rfl)) ?_
      refine sv (v := .int .u32 ((a0.Imm) % 4294967296)) rfl rfl rfl (e_move (tm rfl rfl)) ?_
      refine sv (v := .int .u32 (bits .and .u32 ((a0.Imm) % 4294967296) 31)) rfl rfl rfl (e_bin (tm rfl rfl) rfl (r_bits (by simp) rfl)) ?_
      refine sv (v := .int .u32 (((bits .and .u32 ((a0.Imm) % 4294967296) 31) * 2048) % 4294967296)) rfl rfl rfl (e_bin (tm rfl rfl) rfl (r_shl (by decide) (wrap_u32 _))) ?_
      refine sv (v := .int .u32 (bits .or .u32 (bits .or .u32 ((((a0.A) % 4294967296) * 2097152) % 4294967296) ((((a0.T) % 4294967296) * 65536) % 4294967296)) (((bits .and .u32 ((a0.Imm) % 4294967296) 31) * 2048) % 4294967296))) rfl rfl rfl (e_bin (tm rfl rfl) (tm rfl rfl) (r_bits (by simp) rfl)) ?_
      refine sv (v := .int .u32 ((63 - ((a0.Imm) % 4294967296)) % 4294967296)) rfl rfl rfl (e_move (tm rfl rfl)) ?_
      refine sv (v := .int .u32 (bits .and .u32 ((63 - ((a0.Imm) % 4294967296)) % 4294967296) 31)) rfl rfl rfl (e_bin (tm rfl rfl) rfl (r_bits (by simp) rfl)) ?_
      refine sv (v := .int .u32 (((bits .and .u32 ((63 - ((a0.Imm) % 4294967296)) % 4294967296) 31) * 64) % 4294967296)) rfl rfl rfl (e_bin (tm rfl rfl) rfl (r_shl (by decide) (wrap_u32 _))) ?_
      refine sv (v := .int .u32 (bits .or .u32 (bits .or .u32 (bits .or .u32 ((((a0.A) % 4294967296) * 2097152) % 4294967296) ((((a0.T) % 4294967296) * 65536) % 4294967296)) (((bits .and .u32 ((a0.Imm) % 4294967296) 31) * 2048) % 4294967296)) (((bits .and .u32 ((63 - ((a0.Imm) % 4294967296)) % 4294967296) 31) * 64) % 4294967296))) rfl rfl rfl (e_bin (tm rfl rfl) (tm rfl rfl) (r_bits (by simp) rfl)) ?_
      refine sv (v := .int .u32 ((63 - ((a0.Imm) % 4294967296)) % 4294967296)) rfl rfl rfl (e_move (tm rfl rfl)) ?_
      refine sv (v := .int .u32 (((63 - ((a0.Imm) % 4294967296)) % 4294967296) / 32)) rfl rfl rfl (e_bin (tm rfl rfl) rfl (r_shr (by decide) (fdv _ _ rfl))) ?_
      refine sv (v := .int .u32 (((((63 - ((a0.Imm) % 4294967296)) % 4294967296) / 32) * 32) % 4294967296)) rfl rfl rfl (e_bin (tm rfl rfl) rfl (r_shl (by decide) (wrap_u32 _))) ?_
      refine sv (v := .int .u32 (bits .or .u32 (bits .or .u32 (bits .or .u32 (bits .or .u32 ((((a0.A) % 4294967296) * 2097152) % 4294967296) ((((a0.T) % 4294967296) * 65536) % 4294967296)) (((bits .and .u32 ((a0.Imm) % 4294967296) 31) * 2048) % 4294967296)) (((bits .and .u32 ((63 - ((a0.Imm) % 4294967296)) % 4294967296) 31) * 64) % 4294967296)) (((((63 - ((a0.Imm) % 4294967296)) % 4294967296) / 32) * 32) % 4294967296))) rfl rfl rfl (e_bin (tm rfl rfl) (tm rfl rfl) (r_bits (by simp) rfl)) ?_
      refine sv (v := .int .u32 ((a0.Imm) % 4294967296)) rfl rfl rfl (e_move (tm rfl rfl)) ?_
      refine sv (v := .int .u32 (((a0.Imm) % 4294967296) / 32)) rfl rfl rfl (e_bin (tm rfl rfl) rfl (r_shr (by decide) (fdv _ _ rfl))) ?_
      refine sv (v := .int .u32 (((((a0.Imm) % 4294967296) / 32) * 2) % 4294967296)) rfl rfl rfl (e_bin (tm rfl rfl) rfl (r_shl (by decide) (wrap_u32 _))) ?_
      refine sv (v := .int .u32 (bits .or .u32 (bits .or .u32 (bits .or .u32 (bits .or .u32 (bits .or .u32 ((((a0.A) % 4294967296) * 2097152) % 4294967296) ((((a0.T) % 4294967296) * 65536) % 4294967296)) (((bits .and .u32 ((a0.Imm) % 4294967296) 31) * 2048) % 4294967296)) (((bits .and .u32 ((63 - ((a0.Imm) % 4294967296)) % 4294967296) 31) * 64) % 4294967296)) (((((63 - ((a0.Imm) % 4294967296)) % 4294967296) / 32) * 32) % 4294967296)) (((((a0.Imm) % 4294967296) / 32) * 2) % 4294967296))) rfl rfl rfl (e_bin (tm rfl rfl) (tm rfl rfl) (r_bits (by simp) rfl)) ?_
      refine sv (v := .int .u32 (bits .or .u32 ((isa_formOf.m a0.Op).2) (bits .or .u32 (bits .or .u32 (bits .or .u32 (bits .or .u32 (bits .or .u32 ((((a0.A) % 4294967296) * 2097152) % 4294967296) ((((a0.T) % 4294967296) * 65536) % 4294967296)) (((bits .and .u32 ((a0.Imm) % 4294967296) 31) * 2048) % 4294967296)) (((bits .and .u32 ((63 - ((a0.Imm) % 4294967296)) % 4294967296) 31) * 64) % 4294967296)) (((((63 - ((a0.Imm) % 4294967296)) % 4294967296) / 32) * 32) % 4294967296)) (((((a0.Imm) % 4294967296) / 32) * 2) % 4294967296)))) rfl rfl rfl (e_bin (tm rfl rfl) (tm rfl rfl) (r_bits (by simp) rfl)) ?_
      refine sv (v := .int .u32 (bits .or .u32 ((isa_formOf.m a0.Op).2) (bits .or .u32 (bits .or .u32 (bits .or .u32 (bits .or .u32 (bits .or .u32 ((((a0.A) % 4294967296) * 2097152) % 4294967296) ((((a0.T) % 4294967296) * 65536) % 4294967296)) (((bits .and .u32 ((a0.Imm) % 4294967296) 31) * 2048) % 4294967296)) (((bits .and .u32 ((63 - ((a0.Imm) % 4294967296)) % 4294967296) 31) * 64) % 4294967296)) (((((63 - ((a0.Imm) % 4294967296)) % 4294967296) / 32) * 32) % 4294967296)) (((((a0.Imm) % 4294967296) / 32) * 2) % 4294967296)))) rfl rfl rfl (e_assign (tm rfl rfl)) ?_
      refine k_nil ?_
      obtain rfl := Option.some.inj H
      exact ⟨_, seenF ⟨rfl, trivial⟩, hp178.pick [] (by decide) rfl⟩
    have H := iff_ h200 H
    refine k_seq ?_
    refine k_region ?_
    refine sv (v := .bool (decide (((isa_formOf.m a0.Op).1) = 4))) rfl rfl rfl (e_bin (tm rfl rfl) rfl (r_eql rfl)) ?_
    refine sv (v := .bool (decide (((isa_formOf.m a0.Op).1) = 4))) rfl rfl rfl (e_assign (tm rfl rfl)) ?_
    refine k_nil ?_
    refine k_if (tm rfl rfl) (fun h201 => ?_) (fun h201 => ?_)
    · have H := ift h201 H
      refine k_region ?_
      refine sv (v := .int .u32 ((isa_formOf.m a0.Op).2)) rfl rfl rfl (e_move (tm rfl rfl)) ?_
      refine sv (v := .int .u32 ((((a0.T) % 4294967296) * 2097152) % 4294967296)) rfl rfl rfl (e_move (tm rfl rfl)) ?_
      refine sv (v := .int .u32 ((((a0.A) % 4294967296) * 65536) % 4294967296)) rfl rfl rfl (e_move (tm rfl rfl)) ?_
      refine sv (v := .int .u32 (bits .or .u32 ((((a0.T) % 4294967296) * 2097152) % 4294967296) ((((a0.A) % 4294967296) * 65536) % 4294967296))) rfl rfl rfl (e_bin (tm rfl rfl) (tm rfl rfl) (r_bits (by simp) rfl)) ?_
      refine sv (v := .int .u32 ((((a0.B) % 4294967296) * 2048) % 4294967296)) rfl rfl rfl (e_move (tm rfl rfl)) ?_
      refine sv (v := .int .u32 (bits .or .u32 (bits .or .u32 ((((a0.T) % 4294967296) * 2097152) % 4294967296) ((((a0.A) % 4294967296) * 65536) % 4294967296)) ((((a0.B) % 4294967296) * 2048) % 4294967296))) rfl rfl rfl (e_bin (tm rfl rfl) (tm rfl rfl) (r_bits (by simp) rfl)) ?_
      refine sv (v := .int .u32 (bits .or .u32 ((isa_formOf.m a0.Op).2) (bits .or .u32 (bits .or .u32 ((((a0.T) % 4294967296) * 2097152) % 4294967296) ((((a0.A) % 4294967296) * 65536) % 4294967296)) ((((a0.B) % 4294967296) * 2048) % 4294967296)))) rfl rfl rfl (e_bin (tm rfl rfl) (tm rfl rfl) (r_bits (by simp) rfl)) ?_
      refine sv (v := .int .u32 (bits .or .u32 ((isa_formOf.m a0.Op).2) (bits .or .u32 (bits .or .u32 ((((a0.T) % 4294967296) * 2097152) % 4294967296) ((((a0.A) % 4294967296) * 65536) % 4294967296)) ((((a0.B) % 4294967296) * 2048) % 4294967296)))) rfl rfl rfl (e_assign (tm rfl rfl)) ?_
      refine k_nil ?_
      obtain rfl := Option.some.inj H
      exact ⟨_, seenF ⟨rfl, trivial⟩, hp178.pick [] (by decide) rfl⟩
    have H := iff_ h201 H
    refine k_seq ?_
    refine k_region ?_
    refine sv (v := .bool (decide (((isa_formOf.m a0.Op).1) = 5))) rfl rfl rfl (e_bin (tm rfl rfl) rfl (r_eql rfl)) ?_
    refine sv (v := .bool (decide (((isa_formOf.m a0.Op).1) = 5))) rfl rfl rfl (e_assign (tm rfl rfl)) ?_
    refine k_nil ?_
    refine k_if (tm rfl rfl) (fun h202 => ?_) (fun h202 => ?_)
    · have H := ift h202 H
      refine k_region ?_
      refine sv (v := .int .u32 ((isa_formOf.m a0.Op).2)) rfl rfl rfl (e_move (tm rfl rfl)) ?_
      refine sv (v := .int .u32 ((((a0.T) % 4294967296) * 2097152) % 4294967296)) rfl rfl rfl (e_move (tm rfl rfl)) ?_
      refine sv (v := .int .u32 ((((a0.A) % 4294967296) * 65536) % 4294967296)) rfl rfl rfl (e_move (tm rfl rfl)) ?_
      refine sv (v := .int .u32 (bits .or .u32 ((((a0.T) % 4294967296) * 2097152) % 4294967296) ((((a0.A) % 4294967296) * 65536) % 4294967296))) rfl rfl rfl (e_bin (tm rfl rfl) (tm rfl rfl) (r_bits (by simp) rfl)) ?_
      refine sv (v := .int .u32 ((a0.Imm) % 4294967296)) rfl rfl rfl (e_move (tm rfl rfl)) ?_
      refine sv (v := .int .u32 (bits .and .u32 ((a0.Imm) % 4294967296) 65532)) rfl rfl rfl (e_bin (tm rfl rfl) rfl (r_bits (by simp) rfl)) ?_
      refine sv (v := .int .u32 (bits .or .u32 (bits .or .u32 ((((a0.T) % 4294967296) * 2097152) % 4294967296) ((((a0.A) % 4294967296) * 65536) % 4294967296)) (bits .and .u32 ((a0.Imm) % 4294967296) 65532))) rfl rfl rfl (e_bin (tm rfl rfl) (tm rfl rfl) (r_bits (by simp) rfl)) ?_
      refine sv (v := .int .u32 (bits .or .u32 ((isa_formOf.m a0.Op).2) (bits .or .u32 (bits .or .u32 ((((a0.T) % 4294967296) * 2097152) % 4294967296) ((((a0.A) % 4294967296) * 65536) % 4294967296)) (bits .and .u32 ((a0.Imm) % 4294967296) 65532)))) rfl rfl rfl (e_bin (tm rfl rfl) (tm rfl rfl) (r_bits (by simp) rfl)) ?_
      refine sv (v := .int .u32 (bits .or .u32 ((isa_formOf.m a0.Op).2) (bits .or .u32 (bits .or .u32 ((((a0.T) % 4294967296) * 2097152) % 4294967296) ((((a0.A) % 4294967296) * 65536) % 4294967296)) (bits .and .u32 ((a0.Imm) % 4294967296) 65532)))) rfl rfl rfl (e_assign (tm rfl rfl)) ?_
      refine k_nil ?_
      obtain rfl := Option.some.inj H
      exact ⟨_, seenF ⟨rfl, trivial⟩, hp178.pick [] (by decide) rfl⟩
    have H := iff_ h202 H
    refine k_seq ?_
    refine k_region ?_
    refine sv (v := .bool (decide (((isa_formOf.m a0.Op).1) = 6))) rfl rfl rfl (e_bin (tm rfl rfl) rfl (r_eql rfl)) ?_
    refine sv (v := .bool (decide (((isa_formOf.m a0.Op).1) = 6))) rfl rfl rfl (e_assign (tm rfl rfl)) ?_
    refine k_nil ?_
    refine k_if (tm rfl rfl) (fun h203 => ?_) (fun h203 => ?_)
    · have H := ift h203 H
      refine k_region ?_
      refine sv (v := .int .u32 ((isa_formOf.m a0.Op).2)) rfl rfl rfl (e_move (tm rfl rfl)) ?_
      refine sv (v := .int .u32 ((((a0.A) % 4294967296) * 65536) % 4294967296)) rfl rfl rfl (e_move (tm rfl rfl)) ?_
      refine sv (v := .int .u32 ((((a0.B) % 4294967296) * 2048) % 4294967296)) rfl rfl rfl (e_move (tm rfl rfl)) ?_
      refine sv (v := .int .u32 (bits .or .u32 ((((a0.A) % 4294967296) * 65536) % 4294967296) ((((a0.B) % 4294967296) * 2048) % 4294967296))) rfl rfl rfl (e_bin (tm rfl rfl) (tm rfl rfl) (r_bits (by simp) rfl)) ?_
      refine sv (v := .int .u32 (bits .or .u32 ((isa_formOf.m a0.Op).2) (bits .or .u32 ((((a0.A) % 4294967296) * 65536) % 4294967296) ((((a0.B) % 4294967296) * 2048) % 4294967296)))) rfl rfl rfl (e_bin (tm rfl rfl) (tm rfl rfl) (r_bits (by simp) rfl)) ?_
      refine sv (v := .int .u32 (bits .or .u32 ((isa_formOf.m a0.Op).2) (bits .or .u32 ((((a0.A) % 4294967296) * 65536) % 4294967296) ((((a0.B) % 4294967296) * 2048) % 4294967296)))) rfl rfl rfl (e_assign (tm rfl rfl)) ?_
      refine k_nil ?_
      obtain rfl := Option.some.inj H
      exact ⟨_, seenF ⟨rfl, trivial⟩, hp178.pick [] (by decide) rfl⟩
    have H := iff_ h203 H
    refine k_seq ?_
    refine k_region ?_
    refine sv (v := .bool (decide (((isa_formOf.m a0.Op).1) = 7))) rfl rfl rfl (e_bin (tm rfl rfl) rfl (r_eql rfl)) ?_
    refine sv (v := .bool (decide (((isa_formOf.m a0.Op).1) = 7))) rfl rfl rfl (e_assign (tm rfl rfl)) ?_
    refine k_nil ?_
    refine k_if (tm rfl rfl) (fun h204 => ?_) (fun h204 => ?_)
    · have H := ift h204 H
      refine k_region ?_
      refine sv (v := .int .u32 ((isa_formOf.m a0.Op).2)) rfl rfl rfl (e_move (tm rfl rfl)) ?_
      refine sv (v := .int .u32 ((((a0.A) % 4294967296) * 65536) % 4294967296)) rfl rfl rfl (e_move (tm rfl rfl)) ?_
      refine sv (v := .int .u32 ((a0.Imm) % 4294967296)) rfl rfl rfl (e_move (tm rfl rfl)) ?_
      refine sv (v := .int .u32 (bits .and .u32 ((a0.Imm) % 4294967296) 65535)) rfl rfl rfl (e_bin (tm rfl rfl) rfl (r_bits (by simp) rfl)) ?_
      refine sv (v := .int .u32 (bits .or .u32 ((((a0.A) % 4294967296) * 65536) % 4294967296) (bits .and .u32 ((a0.Imm) % 4294967296) 65535))) rfl rfl rfl (e_bin (tm rfl rfl) (tm rfl rfl) (r_bits (by simp) rfl)) ?_
      refine sv (v := .int .u32 (bits .or .u32 ((isa_formOf.m a0.Op).2) (bits .or .u32 ((((a0.A) % 4294967296) * 65536) % 4294967296) (bits .and .u32 ((a0.Imm) % 4294967296) 65535)))) rfl rfl rfl (e_bin (tm rfl rfl) (tm rfl rfl) (r_bits (by simp) rfl)) ?_
      refine sv (v := .int .u32 (bits .or .u32 ((isa_formOf.m a0.Op).2) (bits .or .u32 ((((a0.A) % 4294967296) * 65536) % 4294967296) (bits .and .u32 ((a0.Imm) % 4294967296) 65535)))) rfl rfl rfl (e_assign (tm rfl rfl)) ?_
      refine k_nil ?_
      obtain rfl := Option.some.inj H
      exact ⟨_, seenF ⟨rfl, trivial⟩, hp178.pick [] (by decide) rfl⟩
    have H := iff_ h204 H
    refine k_seq ?_
    refine k_region ?_
    refine sv (v := .bool (decide (((isa_formOf.m a0.Op).1) = 8))) rfl rfl rfl (e_bin (tm rfl rfl) rfl (r_eql rfl)) ?_
    refine sv (v := .bool (decide (((isa_formOf.m a0.Op).1) = 8))) rfl rfl rfl (e_assign (tm rfl rfl)) ?_
    refine k_nil ?_
    refine k_if (tm rfl rfl) (fun h205 => ?_) (fun h205 => ?_)
    · have H := ift h205 H
      refine k_region ?_
      refine sv (v := .int .u32 ((isa_formOf.m a0.Op).2)) rfl rfl rfl (e_move (tm rfl rfl)) ?_
      refine sv (v := .pointer (some ⟨b1, 1, none⟩)) rfl rfl rfl (e_fieldAddr (tm rfl rfl) Try.runUnderlying23 rfl Try.sizeOf3 rfl rfl) ?_
      refine sv (v := .int .i64 a0.T) rfl rfl rfl (e_load1 (tm rfl rfl) Try.isAgg3 (cell_at (hp178.get (i := 0) (j := 0) rfl rfl) rfl)) ?_
      refine s_call (.cons (tm rfl rfl) .nil) Try.call14 (isa_cond.calls a0.T _) rfl ?_
      rintro v_ w206 ⟨rfl, hb207⟩
      have hp208 := hp178.grow hb207
      refine sv (v := .int .u32 ((a0.Imm) % 4294967296)) rfl rfl rfl (e_move (tm rfl rfl)) ?_
      refine sv (v := .int .u32 (bits .and .u32 ((a0.Imm) % 4294967296) 65532)) rfl rfl rfl (e_bin (tm rfl rfl) rfl (r_bits (by simp) rfl)) ?_
      refine sv (v := .int .u32 (bits .or .u32 (isa_cond.m a0.T) (bits .and .u32 ((a0.Imm) % 4294967296) 65532))) rfl rfl rfl (e_bin (tm rfl rfl) (tm rfl rfl) (r_bits (by simp) rfl)) ?_
      refine sv (v := .int .u32 (bits .or .u32 ((isa_formOf.m a0.Op).2) (bits .or .u32 (isa_cond.m a0.T) (bits .and .u32 ((a0.Imm) % 4294967296) 65532)))) rfl rfl rfl (e_bin (tm rfl rfl) (tm rfl rfl) (r_bits (by simp) rfl)) ?_
      refine sv (v := .int .u32 (bits .or .u32 ((isa_formOf.m a0.Op).2) (bits .or .u32 (isa_cond.m a0.T) (bits .and .u32 ((a0.Imm) % 4294967296) 65532)))) rfl rfl rfl (e_assign (tm rfl rfl)) ?_
      refine k_nil ?_
      obtain rfl := Option.some.inj H
      exact ⟨_, seenF ⟨rfl, trivial⟩, hp208.pick [] (by decide) rfl⟩
    have H := iff_ h205 H
    refine k_seq ?_
    refine k_region ?_
    refine sv (v := .bool (decide (((isa_formOf.m a0.Op).1) = 9))) rfl rfl rfl (e_bin (tm rfl rfl) rfl (r_eql rfl)) ?_
    refine sv (v := .bool (decide (((isa_formOf.m a0.Op).1) = 9))) rfl rfl rfl (e_assign (tm rfl rfl)) ?_
    refine k_nil ?_
    refine k_if (tm rfl rfl) (fun h210 => ?_) (fun h210 => ?_)
    · have H := ift h210 H
      refine k_region ?_
      refine sv (v := .int .u32 ((isa_formOf.m a0.Op).2)) rfl rfl rfl (e_move (tm rfl rfl)) ?_
      refine sv (v := .int .u32 ((a0.Imm) % 4294967296)) rfl rfl rfl (e_move (tm rfl rfl)) ?_
      refine sv (v := .int .u32 (bits .and .u32 ((a0.Imm) % 4294967296) 67108860)) rfl rfl rfl (e_bin (tm rfl rfl) rfl (r_bits (by simp) rfl)) ?_
      refine sv (v := .int .u32 (bits .or .u32 ((isa_formOf.m a0.Op).2) (bits .and .u32 ((a0.Imm) % 4294967296) 67108860))) rfl rfl rfl (e_bin (tm rfl rfl) (tm rfl rfl) (r_bits (by simp) rfl)) ?_
      refine sv (v := .int .u32 (bits .or .u32 ((isa_formOf.m a0.Op).2) (bits .and .u32 ((a0.Imm) % 4294967296) 67108860))) rfl rfl rfl (e_assign (tm rfl rfl)) ?_
      refine k_nil ?_
      obtain rfl := Option.some.inj H
      exact ⟨_, seenF ⟨rfl, trivial⟩, hp178.pick [] (by decide) rfl⟩
    have H := iff_ h210 H
    refine k_skip ?_
    obtain rfl := Option.some.inj H
    exact ⟨_, seenF ⟨rfl, trivial⟩, hp178.pick [] (by decide) rfl⟩
  clear H
  rintro a w' ⟨σ214, rfl, hp212⟩
  have H := G197
  refine k_seq ?_
  refine k_region ?_
  refine sv (v := .int .u32 o196) rfl rfl rfl (e_move (tm rfl rfl)) ?_
  refine sv (v := .int .u32 o196) rfl rfl rfl (e_assign (tm rfl rfl)) ?_
  refine sv (v := .int .i64 0) rfl rfl rfl (e_assign rfl) ?_
  refine k_nil ?_
  refine k_ret ?_
  obtain rfl := Option.some.inj H
  exact k_end rfl (.tmp rfl rfl (.tmp rfl rfl .nil)) rfl ⟨rfl, hp212.below⟩

end Go.Proofs.Ytallojficgiemaa.W

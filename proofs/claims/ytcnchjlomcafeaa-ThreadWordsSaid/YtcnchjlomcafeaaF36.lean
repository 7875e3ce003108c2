/- Functions of the program as plain Lean functions, and that the calls do what they say: written by w2.py. -/
import Derived.Test.YtcnchjlomcafeaaRun
import Derived.Test.YtcnchjlomcafeaaTy
import Derived.Test.YtcnchjlomcafeaaG3
set_option linter.unusedVariables false
set_option linter.unusedSimpArgs false
set_option linter.unusedSectionVars false
namespace Go.Proofs.Ytcnchjlomcafeaa.W
open Go Go.RowKit Go.Proofs.Ytcnchjlomcafeaa.B
attribute [local irreducible] Go.wpList Go.Code.wp Go.Region.wanted Go.yielded
/-! ### selvage/selvageref15.Encode: function 21 -/
def selvageref15_Encode.m (a0 : api_Inst) : Option (Int × Int) :=
 (selvageref15_sort.m a0.Op).bind fun r_6 => ((selvageref15_uses.m r_6).bind fun r_13 => ((if (decide (r_6 = 0)) = true then (some true) else ((selvageref15_has.m r_13 116).bind fun r_23 => (if ((!r_23) && (!decide (a0.T = 0))) = true then (some true) else ((selvageref15_has.m r_13 97).bind fun r_31 => (if ((!r_31) && (!decide (a0.A = 0))) = true then (some true) else ((selvageref15_has.m r_13 98).bind fun r_39 => (if ((!r_39) && (!decide (a0.B = 0))) = true then (some true) else ((selvageref15_has.m r_13 105).bind fun r_47 => (some ((!r_47) && (!decide (a0.Imm = 0))))))))))) : Option Bool).bind fun o_18 => if o_18 = true then (some (0, 3)) else ((if (decide (r_6 = 8)) = true then (some 3) else (some 31) : Option Int).bind fun o_64 => (if ((((((((decide (a0.T < 0)) || (decide (a0.T > o_64))) || (decide (a0.A < 0))) || (decide (a0.A > 31))) || (decide (a0.B < 0))) || (decide (a0.B > 31))) || (decide (a0.Imm < ((selvageref15_bounds.m r_6).1)))) || (decide (a0.Imm > ((selvageref15_bounds.m r_6).2.1)))) = true then (some true) else (if ((selvageref15_bounds.m r_6).2.2) ≠ 0 then (some (!decide ((Int.tmod a0.Imm ((selvageref15_bounds.m r_6).2.2)) = 0))) else none) : Option Bool).bind fun o_71 => if o_71 = true then (some (0, 2)) else ((if (decide (r_6 = 1)) = true then ((selvageref15_pick.m a0.Op ([1, 2] : List Int) ([14, 15] : List Int)).bind fun r_131 => ((selvageref15_word_put.m (⟨0, 0⟩ : selvageref15_word) r_131 6).bind fun r_144 => ((selvageref15_word_put.m r_144 a0.T 5).bind fun r_157 => ((selvageref15_word_put.m r_157 a0.A 5).bind fun r_170 => ((selvageref15_word_put.m r_170 a0.Imm 16).bind fun r_183 => (some (Sum.inl (r_183.w, r_183.bits)))))))) else (if (decide (r_6 = 2)) = true then ((selvageref15_pick.m a0.Op ([3, 4] : List Int) ([24, 25] : List Int)).bind fun r_253 => ((selvageref15_word_put.m (⟨0, 0⟩ : selvageref15_word) r_253 6).bind fun r_266 => ((selvageref15_word_put.m r_266 a0.A 5).bind fun r_279 => ((selvageref15_word_put.m r_279 a0.T 5).bind fun r_292 => ((selvageref15_word_put.m r_292 a0.Imm 16).bind fun r_305 => (some (Sum.inl (r_305.w, r_305.bits)))))))) else (if (decide (r_6 = 3)) = true then ((selvageref15_word_put.m (⟨0, 0⟩ : selvageref15_word) 30 6).bind fun r_338 => ((selvageref15_word_put.m r_338 a0.A 5).bind fun r_345 => ((selvageref15_word_put.m r_345 a0.T 5).bind fun r_352 => ((selvageref15_word_put.m r_352 a0.Imm 5).bind fun r_359 => ((selvageref15_word_put.m r_359 (wrap64 (63 - a0.Imm)) 5).bind fun r_366 => ((selvageref15_word_put.m r_366 (wrap64 (Int.tdiv (wrap64 (63 - a0.Imm)) 32)) 1).bind fun r_373 => ((selvageref15_word_put.m r_373 1 3).bind fun r_380 => ((selvageref15_word_put.m r_380 (wrap64 (Int.tdiv a0.Imm 32)) 1).bind fun r_387 => ((selvageref15_word_put.m r_387 0 1).bind fun r_394 => (some (Sum.inl (r_394.w, r_394.bits)))))))))))) else (if (decide (r_6 = 4)) = true then ((selvageref15_pick.m a0.Op ([6, 7, 8, 9, 12, 13, 14, 15] : List Int) ([266, 40, 233, 489, 21, 149, 84, 214] : List Int)).bind fun r_416 => ((if (decide (a0.Op = 15)) = true then (some 1) else (some 0) : Option Int).bind fun o_421 => (selvageref15_word_put.m (⟨0, 0⟩ : selvageref15_word) 31 6).bind fun r_432 => ((selvageref15_word_put.m r_432 a0.T 5).bind fun r_439 => ((selvageref15_word_put.m r_439 a0.A 5).bind fun r_446 => ((selvageref15_word_put.m r_446 a0.B 5).bind fun r_453 => ((selvageref15_word_put.m r_453 r_416 10).bind fun r_460 => ((selvageref15_word_put.m r_460 o_421 1).bind fun r_467 => (some (Sum.inl (r_467.w, r_467.bits)))))))))) else (if (decide (r_6 = 5)) = true then ((selvageref15_pick.m a0.Op ([10, 11] : List Int) ([58, 62] : List Int)).bind fun r_517 => ((selvageref15_word_put.m (⟨0, 0⟩ : selvageref15_word) r_517 6).bind fun r_530 => ((selvageref15_word_put.m r_530 a0.T 5).bind fun r_543 => ((selvageref15_word_put.m r_543 a0.A 5).bind fun r_556 => ((selvageref15_word_put.m r_556 (wrap64 (Int.tdiv a0.Imm 4)) 14).bind fun r_569 => ((selvageref15_word_put.m r_569 0 2).bind fun r_582 => (some (Sum.inl (r_582.w, r_582.bits))))))))) else (if (decide (r_6 = 6)) = true then ((selvageref15_word_put.m (⟨0, 0⟩ : selvageref15_word) 31 6).bind fun r_616 => ((selvageref15_word_put.m r_616 1 5).bind fun r_623 => ((selvageref15_word_put.m r_623 a0.A 5).bind fun r_630 => ((selvageref15_word_put.m r_630 a0.B 5).bind fun r_637 => ((selvageref15_word_put.m r_637 0 11).bind fun r_644 => (some (Sum.inl (r_644.w, r_644.bits)))))))) else (if (decide (r_6 = 7)) = true then ((selvageref15_word_put.m (⟨0, 0⟩ : selvageref15_word) 11 6).bind fun r_656 => ((selvageref15_word_put.m r_656 1 5).bind fun r_663 => ((selvageref15_word_put.m r_663 a0.A 5).bind fun r_670 => ((selvageref15_word_put.m r_670 a0.Imm 16).bind fun r_677 => (some (Sum.inl (r_677.w, r_677.bits))))))) else (if (decide (r_6 = 8)) = true then (if 0 ≤ a0.T ∧ a0.T < 4 then ((selvageref15_word_put.m (⟨0, 0⟩ : selvageref15_word) 16 6).bind fun r_690 => ((selvageref15_word_put.m r_690 (gi ([12, 4, 12, 4] : List Int) a0.T) 5).bind fun r_697 => ((selvageref15_word_put.m r_697 (gi ([0, 0, 2, 2] : List Int) a0.T) 5).bind fun r_704 => ((selvageref15_word_put.m r_704 (wrap64 (Int.tdiv a0.Imm 4)) 14).bind fun r_711 => ((selvageref15_word_put.m r_711 0 2).bind fun r_718 => (some (Sum.inl (r_718.w, r_718.bits)))))))) else none) else (if (decide (r_6 = 9)) = true then ((selvageref15_word_put.m (⟨0, 0⟩ : selvageref15_word) 18 6).bind fun r_730 => ((selvageref15_word_put.m r_730 (wrap64 (Int.tdiv a0.Imm 4)) 24).bind fun r_737 => ((selvageref15_word_put.m r_737 0 2).bind fun r_744 => (some (Sum.inl (r_744.w, r_744.bits)))))) else ((selvageref15_pick.m a0.Op ([20, 21, 22, 23] : List Int) ([31, 31, 19, 17] : List Int)).bind fun r_792 => ((selvageref15_word_put.m (⟨0, 0⟩ : selvageref15_word) r_792 6).bind fun r_805 => (if (decide (a0.Op = 23)) = true then ((selvageref15_word_put.m r_805 2 26).bind fun r_833 => ((some (r_833.w, 0)).map Sum.inr)) else ((selvageref15_pick.m a0.Op ([20, 21, 22] : List Int) ([0, 1, 0] : List Int)).bind fun r_879 => ((selvageref15_word_put.m r_805 r_879 5).bind fun r_892 => ((selvageref15_word_put.m r_892 0 10).bind fun r_905 => ((selvageref15_pick.m a0.Op ([20, 21, 22] : List Int) ([598, 598, 150] : List Int)).bind fun r_949 => ((selvageref15_word_put.m r_905 r_949 10).bind fun r_963 => ((selvageref15_word_put.m r_963 0 1).bind fun r_976 => (some (Sum.inl (r_976.w, r_976.bits)))))))))))))))))))) : Option (Int × Int ⊕ (Int × Int))).bind fun o_86 => match o_86 with | .inl s_88 => (some (s_88.1, 0)) | .inr r_1019 => some r_1019))))
set_option maxHeartbeats 4000000 in
set_option maxRecDepth 100000 in
theorem selvageref15_Encode.calls (a0 : api_Inst) (r : Int × Int) (w : World) (H : selvageref15_Encode.m a0 = some r) :
 Ret Try.prog 21 [.agg #[.int .i64 a0.Op, .int .i64 a0.T, .int .i64 a0.A, .int .i64 a0.B, .int .i64 a0.Imm]] w fun v w' => v = .tuple #[.int .u32 r.1, .int .i64 r.2] ∧ Aft w w' [] [] := by
 unfold selvageref15_Encode.m at H
 have hp0 := Hp.startR (F := no) (R := []) (Have.nil w) (fun _ h => h.elim)
 have ep0 := Ep.refl no [] w
 refine enter (L := [(0, .agg #[.int .i64 a0.Op, .int .i64 a0.T, .int .i64 a0.A, .int .i64 a0.B, .int .i64 a0.Imm])]) Try.func21 rfl Try.ntmps21 rfl rfl ?_
 refine k_seq ?_
 refine k_region ?_
 refine s_box (l := [.int .i64 a0.Op, .int .i64 a0.T, .int .i64 a0.A, .int .i64 a0.B, .int .i64 a0.Imm]) hp0 (tm rfl rfl) rfl rfl (fun b_1 w_2 hp_3 => ?_)
 refine sr tb hp_3 [] 2 [] (by kernel_rfl) fun σ => ?_
 refine k_nil ?_
 refine k_seq ?_
 refine k_region ?_
 refine sr tb hp_3 [(1, 0, 0)] 2 [(14, .int .i64 a0.Op)] (by kernel_rfl) fun σ => ?_
 obtain ⟨r_6, hx_5, H⟩ := bindSome H
 refine s_call (.cons (tm rfl rfl) .nil) Try.call42 (selvageref15_sort.calls a0.Op r_6 _ hx_5) rfl ?_
 rintro v_ w_7 ⟨rfl, af_10⟩
 have hp_8 := Hp.callA af_10 hp_3
 refine sv (v := .int .i64 r_6) rfl rfl rfl (e_assign (tm rfl rfl)) ?_
 refine k_nil ?_
 refine k_seq ?_
 refine k_region ?_
 refine sv (v := .int .i64 r_6) rfl rfl rfl (e_move (tm rfl rfl)) ?_
 obtain ⟨r_13, hx_12, H⟩ := bindSome H
 refine s_call (.cons (tm rfl rfl) .nil) Try.call43 (selvageref15_uses.calls r_6 r_13 _ hx_12) rfl ?_
 rintro v_ w_14 ⟨rfl, af_17⟩
 have hp_15 := Hp.callA af_17 hp_8
 refine sv (v := .string r_13) rfl rfl rfl (e_assign (tm rfl rfl)) ?_
 refine k_nil ?_
 refine k_seq ?_
 refine k_seq ?_
 obtain ⟨o_18, H, G_19⟩ := bindSome H
 refine k_cut (fun a w' => ∃ (σ_1023 : Nat → Value), a = st 308 [(1, .pointer (some ⟨b_1, 0, none⟩)), (4, .int .i64 r_6), (59, .bool o_18)] σ_1023 [] ∧ Hp (On []) no w w w' [[(b_1, .cells #[.int .i64 a0.Op, .int .i64 a0.T, .int .i64 a0.A, .int .i64 a0.B, .int .i64 a0.Imm] 44 (0, 0))]]) ?_ ?_
 ·as_aux_lemma =>
  refine k_region ?_
  refine sr tb hp_15 [] 4 [(20, .bool (decide (r_6 = 0))), (21, bif (!(decide (r_6 = 0))) then (.string r_13) else undef)] (by kernel_rfl) fun σ => ?_
  rcases Bool.eq_false_or_eq_true (decide (r_6 = 0)) with h_20 | h_20
  ·have H := ift h_20 H
   refine goff rfl rfl (congrArg Value.bool h_20) rfl ?_
   refine goff rfl rfl (congrArg Value.bool h_20) rfl ?_
   refine goff rfl rfl (congrArg Value.bool h_20) rfl ?_
   refine goffu rfl rfl rfl rfl ?_
   refine goffu rfl rfl rfl rfl ?_
   refine goffu rfl rfl rfl rfl ?_
   refine goff rfl rfl (congrArg Value.bool h_20) rfl ?_
   refine sv (v := .bool true) rfl rfl rfl (e_pick (b := decide (r_6 = 0)) (v1 := .bool true) (v2 := .bool true) (tm rfl rfl) (fun _ => rfl) (fun h_ => pk_no h_ h_20) (pk_same _ _)) ?_
   refine sv (v := .bool true) rfl rfl rfl (e_move (tm rfl rfl)) ?_
   refine goff rfl rfl rfl rfl ?_
   refine goff rfl rfl rfl rfl ?_
   refine goff rfl rfl rfl rfl ?_
   refine goff rfl rfl rfl rfl ?_
   refine goffu rfl rfl rfl rfl ?_
   refine goffu rfl rfl rfl rfl ?_
   refine goffu rfl rfl rfl rfl ?_
   refine goff rfl rfl rfl rfl ?_
   refine sv (v := .bool true) rfl rfl rfl (e_pick (v1 := .bool true) (v2 := .bool true) (tm rfl rfl) (fun _ => rfl) (fun h_ => by cases h_) rfl) ?_
   refine sv (v := .bool true) rfl rfl rfl (e_move (tm rfl rfl)) ?_
   refine goff rfl rfl rfl rfl ?_
   refine goff rfl rfl rfl rfl ?_
   refine goff rfl rfl rfl rfl ?_
   refine goff rfl rfl rfl rfl ?_
   refine goffu rfl rfl rfl rfl ?_
   refine goffu rfl rfl rfl rfl ?_
   refine goffu rfl rfl rfl rfl ?_
   refine goff rfl rfl rfl rfl ?_
   refine sv (v := .bool true) rfl rfl rfl (e_pick (v1 := .bool true) (v2 := .bool true) (tm rfl rfl) (fun _ => rfl) (fun h_ => by cases h_) rfl) ?_
   refine sv (v := .bool true) rfl rfl rfl (e_move (tm rfl rfl)) ?_
   refine goff rfl rfl rfl rfl ?_
   refine goff rfl rfl rfl rfl ?_
   refine goff rfl rfl rfl rfl ?_
   refine goff rfl rfl rfl rfl ?_
   refine goffu rfl rfl rfl rfl ?_
   refine goffu rfl rfl rfl rfl ?_
   refine goffu rfl rfl rfl rfl ?_
   refine goff rfl rfl rfl rfl ?_
   refine sv (v := .bool true) rfl rfl rfl (e_pick (v1 := .bool true) (v2 := .bool true) (tm rfl rfl) (fun _ => rfl) (fun h_ => by cases h_) rfl) ?_
   refine k_nil ?_
   obtain rfl := Option.some.inj H
   exact ⟨_, seenF ⟨rfl, rfl, rfl, trivial⟩, hp_15⟩
  have H := iff_ h_20 H
  refine gon rfl rfl (congrArg Value.bool h_20) ?_
  obtain ⟨r_23, hx_22, H⟩ := bindSome H
  refine s_call (.cons (tmg (!(decide (r_6 = 0))) (.string r_13) rfl rfl (nt h_20)) (.cons rfl .nil)) Try.call44 (selvageref15_has.calls r_13 116 r_23 _ hx_22) rfl ?_
  rintro v_ w_24 ⟨rfl, af_27⟩
  have hp_25 := Hp.callA af_27 hp_15
  refine gon rfl rfl (congrArg Value.bool h_20) ?_
  refine sv (v := .bool (!r_23)) rfl rfl rfl (e_un (tm rfl rfl) (r_not rfl)) ?_
  refine gon rfl rfl (congrArg Value.bool h_20) ?_
  refine sv (v := .bool (!r_23)) rfl rfl rfl (e_move (tm rfl rfl)) ?_
  refine s_gp (v := .pointer (some ⟨b_1, 1, none⟩)) rfl rfl rfl (beq_t _) (fun g_ => e_fieldAddr (tm rfl rfl) Try.runUnderlying44 rfl Try.sizeOf3 rfl rfl) rfl ?_
  refine s_gp (v := .int .i64 a0.T) rfl rfl rfl (beq_t _) (fun g_ => e_load1 (tmg (!r_23) (.pointer (some ⟨b_1, 1, none⟩)) rfl rfl g_) Try.isAgg3 (cell_atL (hp_25.get (i := 0) (j := 0) rfl rfl) rfl)) rfl ?_
  refine s_gp (v := .bool (!decide (a0.T = 0))) rfl rfl rfl (beq_t _) (fun g_ => e_bin (tmg (!r_23) (.int .i64 a0.T) rfl rfl g_) rfl (r_neq rfl)) rfl ?_
  refine gon rfl rfl (congrArg Value.bool h_20) ?_
  refine sv (v := .bool ((!r_23) && (!decide (a0.T = 0)))) rfl rfl rfl (e_pick (v1 := .bool (!decide (a0.T = 0))) (v2 := .bool false) (tm rfl rfl) (fun h_ => tmg (!r_23) (.bool (!decide (a0.T = 0))) rfl rfl h_) (fun _ => rfl) (pk_and (!r_23))) ?_
  refine sv (v := .bool ((!r_23) && (!decide (a0.T = 0)))) rfl rfl rfl (e_pick (b := decide (r_6 = 0)) (v1 := .bool ((!r_23) && (!decide (a0.T = 0)))) (v2 := .bool ((!r_23) && (!decide (a0.T = 0)))) (tm rfl rfl) (fun h_ => pk_no h_20 h_) (fun _ => (tm rfl rfl)) (pk_same _ _)) ?_
  refine sv (v := .bool ((!r_23) && (!decide (a0.T = 0)))) rfl rfl rfl (e_move (tm rfl rfl)) ?_
  refine s_gp (v := .string r_13) rfl rfl rfl (beq_f _) (fun g_ => e_move (tm rfl rfl)) rfl ?_
  rcases Bool.eq_false_or_eq_true ((!r_23) && (!decide (a0.T = 0))) with h_28 | h_28
  ·have H := ift h_28 H
   refine goff rfl rfl (congrArg Value.bool h_28) rfl ?_
   refine goff rfl rfl (congrArg Value.bool h_28) rfl ?_
   refine goff rfl rfl (congrArg Value.bool h_28) rfl ?_
   refine goffu rfl rfl rfl rfl ?_
   refine goffu rfl rfl rfl rfl ?_
   refine goffu rfl rfl rfl rfl ?_
   refine goff rfl rfl (congrArg Value.bool h_28) rfl ?_
   refine sv (v := .bool true) rfl rfl rfl (e_pick (b := ((!r_23) && (!decide (a0.T = 0)))) (v1 := .bool true) (v2 := .bool true) (tm rfl rfl) (fun _ => rfl) (fun h_ => pk_no h_ h_28) (pk_same _ _)) ?_
   refine sv (v := .bool true) rfl rfl rfl (e_move (tm rfl rfl)) ?_
   refine goff rfl rfl rfl rfl ?_
   refine goff rfl rfl rfl rfl ?_
   refine goff rfl rfl rfl rfl ?_
   refine goff rfl rfl rfl rfl ?_
   refine goffu rfl rfl rfl rfl ?_
   refine goffu rfl rfl rfl rfl ?_
   refine goffu rfl rfl rfl rfl ?_
   refine goff rfl rfl rfl rfl ?_
   refine sv (v := .bool true) rfl rfl rfl (e_pick (v1 := .bool true) (v2 := .bool true) (tm rfl rfl) (fun _ => rfl) (fun h_ => by cases h_) rfl) ?_
   refine sv (v := .bool true) rfl rfl rfl (e_move (tm rfl rfl)) ?_
   refine goff rfl rfl rfl rfl ?_
   refine goff rfl rfl rfl rfl ?_
   refine goff rfl rfl rfl rfl ?_
   refine goff rfl rfl rfl rfl ?_
   refine goffu rfl rfl rfl rfl ?_
   refine goffu rfl rfl rfl rfl ?_
   refine goffu rfl rfl rfl rfl ?_
   refine goff rfl rfl rfl rfl ?_
   refine sv (v := .bool true) rfl rfl rfl (e_pick (v1 := .bool true) (v2 := .bool true) (tm rfl rfl) (fun _ => rfl) (fun h_ => by cases h_) rfl) ?_
   refine k_nil ?_
   obtain rfl := Option.some.inj H
   exact ⟨_, seenF ⟨rfl, rfl, rfl, trivial⟩, hp_25⟩
  have H := iff_ h_28 H
  refine gon rfl rfl (congrArg Value.bool h_28) ?_
  obtain ⟨r_31, hx_30, H⟩ := bindSome H
  refine s_call (.cons (tmg (!((!r_23) && (!decide (a0.T = 0)))) (.string r_13) rfl rfl (nt h_28)) (.cons rfl .nil)) Try.call44 (selvageref15_has.calls r_13 97 r_31 _ hx_30) rfl ?_
  rintro v_ w_32 ⟨rfl, af_35⟩
  have hp_33 := Hp.callA af_35 hp_25
  refine gon rfl rfl (congrArg Value.bool h_28) ?_
  refine sv (v := .bool (!r_31)) rfl rfl rfl (e_un (tm rfl rfl) (r_not rfl)) ?_
  refine gon rfl rfl (congrArg Value.bool h_28) ?_
  refine sv (v := .bool (!r_31)) rfl rfl rfl (e_move (tm rfl rfl)) ?_
  refine s_gp (v := .pointer (some ⟨b_1, 2, none⟩)) rfl rfl rfl (beq_t _) (fun g_ => e_fieldAddr (tm rfl rfl) Try.runUnderlying44 rfl Try.sizeOf3 rfl rfl) rfl ?_
  refine s_gp (v := .int .i64 a0.A) rfl rfl rfl (beq_t _) (fun g_ => e_load1 (tmg (!r_31) (.pointer (some ⟨b_1, 2, none⟩)) rfl rfl g_) Try.isAgg3 (cell_atL (hp_33.get (i := 0) (j := 0) rfl rfl) rfl)) rfl ?_
  refine s_gp (v := .bool (!decide (a0.A = 0))) rfl rfl rfl (beq_t _) (fun g_ => e_bin (tmg (!r_31) (.int .i64 a0.A) rfl rfl g_) rfl (r_neq rfl)) rfl ?_
  refine gon rfl rfl (congrArg Value.bool h_28) ?_
  refine sv (v := .bool ((!r_31) && (!decide (a0.A = 0)))) rfl rfl rfl (e_pick (v1 := .bool (!decide (a0.A = 0))) (v2 := .bool false) (tm rfl rfl) (fun h_ => tmg (!r_31) (.bool (!decide (a0.A = 0))) rfl rfl h_) (fun _ => rfl) (pk_and (!r_31))) ?_
  refine sv (v := .bool ((!r_31) && (!decide (a0.A = 0)))) rfl rfl rfl (e_pick (b := ((!r_23) && (!decide (a0.T = 0)))) (v1 := .bool ((!r_31) && (!decide (a0.A = 0)))) (v2 := .bool ((!r_31) && (!decide (a0.A = 0)))) (tm rfl rfl) (fun h_ => pk_no h_28 h_) (fun _ => (tm rfl rfl)) (pk_same _ _)) ?_
  refine sv (v := .bool ((!r_31) && (!decide (a0.A = 0)))) rfl rfl rfl (e_move (tm rfl rfl)) ?_
  refine s_gp (v := .string r_13) rfl rfl rfl (beq_f _) (fun g_ => e_move (tm rfl rfl)) rfl ?_
  rcases Bool.eq_false_or_eq_true ((!r_31) && (!decide (a0.A = 0))) with h_36 | h_36
  ·have H := ift h_36 H
   refine goff rfl rfl (congrArg Value.bool h_36) rfl ?_
   refine goff rfl rfl (congrArg Value.bool h_36) rfl ?_
   refine goff rfl rfl (congrArg Value.bool h_36) rfl ?_
   refine goffu rfl rfl rfl rfl ?_
   refine goffu rfl rfl rfl rfl ?_
   refine goffu rfl rfl rfl rfl ?_
   refine goff rfl rfl (congrArg Value.bool h_36) rfl ?_
   refine sv (v := .bool true) rfl rfl rfl (e_pick (b := ((!r_31) && (!decide (a0.A = 0)))) (v1 := .bool true) (v2 := .bool true) (tm rfl rfl) (fun _ => rfl) (fun h_ => pk_no h_ h_36) (pk_same _ _)) ?_
   refine sv (v := .bool true) rfl rfl rfl (e_move (tm rfl rfl)) ?_
   refine goff rfl rfl rfl rfl ?_
   refine goff rfl rfl rfl rfl ?_
   refine goff rfl rfl rfl rfl ?_
   refine goff rfl rfl rfl rfl ?_
   refine goffu rfl rfl rfl rfl ?_
   refine goffu rfl rfl rfl rfl ?_
   refine goffu rfl rfl rfl rfl ?_
   refine goff rfl rfl rfl rfl ?_
   refine sv (v := .bool true) rfl rfl rfl (e_pick (v1 := .bool true) (v2 := .bool true) (tm rfl rfl) (fun _ => rfl) (fun h_ => by cases h_) rfl) ?_
   refine k_nil ?_
   obtain rfl := Option.some.inj H
   exact ⟨_, seenF ⟨rfl, rfl, rfl, trivial⟩, hp_33⟩
  have H := iff_ h_36 H
  refine gon rfl rfl (congrArg Value.bool h_36) ?_
  obtain ⟨r_39, hx_38, H⟩ := bindSome H
  refine s_call (.cons (tmg (!((!r_31) && (!decide (a0.A = 0)))) (.string r_13) rfl rfl (nt h_36)) (.cons rfl .nil)) Try.call44 (selvageref15_has.calls r_13 98 r_39 _ hx_38) rfl ?_
  rintro v_ w_40 ⟨rfl, af_43⟩
  have hp_41 := Hp.callA af_43 hp_33
  refine gon rfl rfl (congrArg Value.bool h_36) ?_
  refine sv (v := .bool (!r_39)) rfl rfl rfl (e_un (tm rfl rfl) (r_not rfl)) ?_
  refine gon rfl rfl (congrArg Value.bool h_36) ?_
  refine sv (v := .bool (!r_39)) rfl rfl rfl (e_move (tm rfl rfl)) ?_
  refine s_gp (v := .pointer (some ⟨b_1, 3, none⟩)) rfl rfl rfl (beq_t _) (fun g_ => e_fieldAddr (tm rfl rfl) Try.runUnderlying44 rfl Try.sizeOf3 rfl rfl) rfl ?_
  refine s_gp (v := .int .i64 a0.B) rfl rfl rfl (beq_t _) (fun g_ => e_load1 (tmg (!r_39) (.pointer (some ⟨b_1, 3, none⟩)) rfl rfl g_) Try.isAgg3 (cell_atL (hp_41.get (i := 0) (j := 0) rfl rfl) rfl)) rfl ?_
  refine s_gp (v := .bool (!decide (a0.B = 0))) rfl rfl rfl (beq_t _) (fun g_ => e_bin (tmg (!r_39) (.int .i64 a0.B) rfl rfl g_) rfl (r_neq rfl)) rfl ?_
  refine gon rfl rfl (congrArg Value.bool h_36) ?_
  refine sv (v := .bool ((!r_39) && (!decide (a0.B = 0)))) rfl rfl rfl (e_pick (v1 := .bool (!decide (a0.B = 0))) (v2 := .bool false) (tm rfl rfl) (fun h_ => tmg (!r_39) (.bool (!decide (a0.B = 0))) rfl rfl h_) (fun _ => rfl) (pk_and (!r_39))) ?_
  refine sv (v := .bool ((!r_39) && (!decide (a0.B = 0)))) rfl rfl rfl (e_pick (b := ((!r_31) && (!decide (a0.A = 0)))) (v1 := .bool ((!r_39) && (!decide (a0.B = 0)))) (v2 := .bool ((!r_39) && (!decide (a0.B = 0)))) (tm rfl rfl) (fun h_ => pk_no h_36 h_) (fun _ => (tm rfl rfl)) (pk_same _ _)) ?_
  refine sv (v := .bool ((!r_39) && (!decide (a0.B = 0)))) rfl rfl rfl (e_move (tm rfl rfl)) ?_
  refine s_gp (v := .string r_13) rfl rfl rfl (beq_f _) (fun g_ => e_move (tm rfl rfl)) rfl ?_
  rcases Bool.eq_false_or_eq_true ((!r_39) && (!decide (a0.B = 0))) with h_44 | h_44
  ·have H := ift h_44 H
   refine goff rfl rfl (congrArg Value.bool h_44) rfl ?_
   refine goff rfl rfl (congrArg Value.bool h_44) rfl ?_
   refine goff rfl rfl (congrArg Value.bool h_44) rfl ?_
   refine goffu rfl rfl rfl rfl ?_
   refine goffu rfl rfl rfl rfl ?_
   refine goffu rfl rfl rfl rfl ?_
   refine goff rfl rfl (congrArg Value.bool h_44) rfl ?_
   refine sv (v := .bool true) rfl rfl rfl (e_pick (b := ((!r_39) && (!decide (a0.B = 0)))) (v1 := .bool true) (v2 := .bool true) (tm rfl rfl) (fun _ => rfl) (fun h_ => pk_no h_ h_44) (pk_same _ _)) ?_
   refine k_nil ?_
   obtain rfl := Option.some.inj H
   exact ⟨_, seenF ⟨rfl, rfl, rfl, trivial⟩, hp_41⟩
  have H := iff_ h_44 H
  refine gon rfl rfl (congrArg Value.bool h_44) ?_
  obtain ⟨r_47, hx_46, H⟩ := bindSome H
  refine s_call (.cons (tmg (!((!r_39) && (!decide (a0.B = 0)))) (.string r_13) rfl rfl (nt h_44)) (.cons rfl .nil)) Try.call44 (selvageref15_has.calls r_13 105 r_47 _ hx_46) rfl ?_
  rintro v_ w_48 ⟨rfl, af_51⟩
  have hp_49 := Hp.callA af_51 hp_41
  refine gon rfl rfl (congrArg Value.bool h_44) ?_
  refine sv (v := .bool (!r_47)) rfl rfl rfl (e_un (tm rfl rfl) (r_not rfl)) ?_
  refine gon rfl rfl (congrArg Value.bool h_44) ?_
  refine sv (v := .bool (!r_47)) rfl rfl rfl (e_move (tm rfl rfl)) ?_
  refine s_gp (v := .pointer (some ⟨b_1, 4, none⟩)) rfl rfl rfl (beq_t _) (fun g_ => e_fieldAddr (tm rfl rfl) Try.runUnderlying44 rfl Try.sizeOf3 rfl rfl) rfl ?_
  refine s_gp (v := .int .i64 a0.Imm) rfl rfl rfl (beq_t _) (fun g_ => e_load1 (tmg (!r_47) (.pointer (some ⟨b_1, 4, none⟩)) rfl rfl g_) Try.isAgg3 (cell_atL (hp_49.get (i := 0) (j := 0) rfl rfl) rfl)) rfl ?_
  refine s_gp (v := .bool (!decide (a0.Imm = 0))) rfl rfl rfl (beq_t _) (fun g_ => e_bin (tmg (!r_47) (.int .i64 a0.Imm) rfl rfl g_) rfl (r_neq rfl)) rfl ?_
  refine gon rfl rfl (congrArg Value.bool h_44) ?_
  refine sv (v := .bool ((!r_47) && (!decide (a0.Imm = 0)))) rfl rfl rfl (e_pick (v1 := .bool (!decide (a0.Imm = 0))) (v2 := .bool false) (tm rfl rfl) (fun h_ => tmg (!r_47) (.bool (!decide (a0.Imm = 0))) rfl rfl h_) (fun _ => rfl) (pk_and (!r_47))) ?_
  refine sv (v := .bool ((!r_47) && (!decide (a0.Imm = 0)))) rfl rfl rfl (e_pick (b := ((!r_39) && (!decide (a0.B = 0)))) (v1 := .bool ((!r_47) && (!decide (a0.Imm = 0)))) (v2 := .bool ((!r_47) && (!decide (a0.Imm = 0)))) (tm rfl rfl) (fun h_ => pk_no h_44 h_) (fun _ => (tm rfl rfl)) (pk_same _ _)) ?_
  refine k_nil ?_
  obtain rfl := Option.some.inj H
  exact ⟨_, seenF ⟨rfl, rfl, rfl, trivial⟩, hp_49⟩
 clear H
 rintro a w' ⟨σ_52, rfl, hp_53⟩
 have H := G_19
 refine k_if (tm rfl rfl) (fun h_56 => ?_) (fun h_56 => ?_)
 ·have H := ift h_56 H
  refine kq tb hp_53 [] [(2, .int .u32 0), (3, .int .i64 3)] (by kernel_rfl) fun σ => ?_
  refine k_ret ?_
  obtain rfl := Option.some.inj H
  exact k_end rfl (.tmp rfl rfl (.tmp rfl rfl .nil)) rfl ⟨rfl, (hp_53.pick [] (by decide) rfl).aft⟩
 have H := iff_ h_56 H
 refine k_skip ?_
 refine k_seq ?_
 refine k_region ?_
 refine sv (v := .int .i64 r_6) rfl rfl rfl (e_move (tm rfl rfl)) ?_
 refine s_call (.cons (tm rfl rfl) .nil) Try.call45 (selvageref15_bounds.calls r_6 _) rfl ?_
 rintro v_ w_60 ⟨rfl, af_63⟩
 have hp_61 := Hp.callA af_63 hp_53
 refine sv (v := .tuple #[.int .i64 ((selvageref15_bounds.m r_6).1), .int .i64 ((selvageref15_bounds.m r_6).2.1), .int .i64 ((selvageref15_bounds.m r_6).2.2)]) rfl rfl rfl (e_move (tm rfl rfl)) ?_
 refine sr tb hp_61 [] 6 [(6, .int .i64 ((selvageref15_bounds.m r_6).1)), (7, .int .i64 ((selvageref15_bounds.m r_6).2.1)), (8, .int .i64 ((selvageref15_bounds.m r_6).2.2))] (by kernel_rfl) fun σ => ?_
 refine k_nil ?_
 refine kq tb hp_61 [] [(9, .int .i64 31)] (by kernel_rfl) fun σ => ?_
 refine k_seq ?_
 refine kq tb hp_61 [] [(67, .bool (decide (r_6 = 8)))] (by kernel_rfl) fun σ => ?_
 obtain ⟨o_64, H, G_65⟩ := bindSome H
 refine k_cut (fun a w' => ∃ (σ_1022 : Nat → Value), a = st 308 [(1, .pointer (some ⟨b_1, 0, none⟩)), (4, .int .i64 r_6), (6, .int .i64 ((selvageref15_bounds.m r_6).1)), (7, .int .i64 ((selvageref15_bounds.m r_6).2.1)), (8, .int .i64 ((selvageref15_bounds.m r_6).2.2)), (9, .int .i64 o_64)] σ_1022 [] ∧ Hp (On []) no w w w' [[(b_1, .cells #[.int .i64 a0.Op, .int .i64 a0.T, .int .i64 a0.A, .int .i64 a0.B, .int .i64 a0.Imm] 44 (0, 0))]]) ?_ ?_
 ·refine k_if (tm rfl rfl) (fun h_66 => ?_) (fun h_66 => ?_)
  ·have H := ift h_66 H
   refine kr tb hp_61 [] [(9, .int .i64 3)] (by kernel_rfl) fun σ => ?_
   obtain rfl := Option.some.inj H
   exact ⟨_, seenF ⟨rfl, rfl, rfl, rfl, rfl, rfl, trivial⟩, hp_61⟩
  have H := iff_ h_66 H
  refine k_skip ?_
  obtain rfl := Option.some.inj H
  exact ⟨_, seenF ⟨rfl, rfl, rfl, rfl, rfl, rfl, trivial⟩, hp_61⟩
 clear H
 rintro a w' ⟨σ_67, rfl, hp_68⟩
 have H := G_65
 refine k_seq ?_
 refine k_seq ?_
 obtain ⟨o_71, H, G_72⟩ := bindSome H
 refine k_cut (fun a w' => ∃ (σ_1021 : Nat → Value), a = st 308 [(1, .pointer (some ⟨b_1, 0, none⟩)), (4, .int .i64 r_6), (115, .bool o_71)] σ_1021 [] ∧ Hp (On []) no w w w' [[(b_1, .cells #[.int .i64 a0.Op, .int .i64 a0.T, .int .i64 a0.A, .int .i64 a0.B, .int .i64 a0.Imm] 44 (0, 0))]]) ?_ ?_
 ·refine k_region ?_
  refine sr tb hp_68 [(1, 0, 0)] 45 [(109, .bool ((((((((decide (a0.T < 0)) || (decide (a0.T > o_64))) || (decide (a0.A < 0))) || (decide (a0.A > 31))) || (decide (a0.B < 0))) || (decide (a0.B > 31))) || (decide (a0.Imm < ((selvageref15_bounds.m r_6).1)))) || (decide (a0.Imm > ((selvageref15_bounds.m r_6).2.1))))), (111, bif (!((((((((decide (a0.T < 0)) || (decide (a0.T > o_64))) || (decide (a0.A < 0))) || (decide (a0.A > 31))) || (decide (a0.B < 0))) || (decide (a0.B > 31))) || (decide (a0.Imm < ((selvageref15_bounds.m r_6).1)))) || (decide (a0.Imm > ((selvageref15_bounds.m r_6).2.1))))) then (.int .i64 a0.Imm) else undef), (112, bif (!((((((((decide (a0.T < 0)) || (decide (a0.T > o_64))) || (decide (a0.A < 0))) || (decide (a0.A > 31))) || (decide (a0.B < 0))) || (decide (a0.B > 31))) || (decide (a0.Imm < ((selvageref15_bounds.m r_6).1)))) || (decide (a0.Imm > ((selvageref15_bounds.m r_6).2.1))))) then (.int .i64 ((selvageref15_bounds.m r_6).2.2)) else undef)] (by kernel_rfl) fun σ => ?_
  rcases Bool.eq_false_or_eq_true ((((((((decide (a0.T < 0)) || (decide (a0.T > o_64))) || (decide (a0.A < 0))) || (decide (a0.A > 31))) || (decide (a0.B < 0))) || (decide (a0.B > 31))) || (decide (a0.Imm < ((selvageref15_bounds.m r_6).1)))) || (decide (a0.Imm > ((selvageref15_bounds.m r_6).2.1)))) with h_74 | h_74
  ·have H := ift h_74 H
   refine goff rfl rfl (congrArg Value.bool h_74) rfl ?_
   refine goff rfl rfl (congrArg Value.bool h_74) rfl ?_
   refine sv (v := .bool true) rfl rfl rfl (e_pick (b := ((((((((decide (a0.T < 0)) || (decide (a0.T > o_64))) || (decide (a0.A < 0))) || (decide (a0.A > 31))) || (decide (a0.B < 0))) || (decide (a0.B > 31))) || (decide (a0.Imm < ((selvageref15_bounds.m r_6).1)))) || (decide (a0.Imm > ((selvageref15_bounds.m r_6).2.1))))) (v1 := .bool true) (v2 := .bool true) (tm rfl rfl) (fun _ => rfl) (fun h_ => pk_no h_ h_74) (pk_same _ _)) ?_
   refine k_nil ?_
   obtain rfl := Option.some.inj H
   exact ⟨_, seenF ⟨rfl, rfl, rfl, trivial⟩, hp_68⟩
  have H := iff_ h_74 H
  refine gon rfl rfl (congrArg Value.bool h_74) ?_
  obtain ⟨g_75, H⟩ := grd H
  refine sv (v := .int .i64 (Int.tmod a0.Imm ((selvageref15_bounds.m r_6).2.2))) rfl rfl rfl (e_bin (tmg (!((((((((decide (a0.T < 0)) || (decide (a0.T > o_64))) || (decide (a0.A < 0))) || (decide (a0.A > 31))) || (decide (a0.B < 0))) || (decide (a0.B > 31))) || (decide (a0.Imm < ((selvageref15_bounds.m r_6).1)))) || (decide (a0.Imm > ((selvageref15_bounds.m r_6).2.1))))) (.int .i64 a0.Imm) rfl rfl (nt h_74)) (tmg (!((((((((decide (a0.T < 0)) || (decide (a0.T > o_64))) || (decide (a0.A < 0))) || (decide (a0.A > 31))) || (decide (a0.B < 0))) || (decide (a0.B > 31))) || (decide (a0.Imm < ((selvageref15_bounds.m r_6).1)))) || (decide (a0.Imm > ((selvageref15_bounds.m r_6).2.1))))) (.int .i64 ((selvageref15_bounds.m r_6).2.2)) rfl rfl (nt h_74)) (r_rem g_75 rfl)) ?_
  refine gon rfl rfl (congrArg Value.bool h_74) ?_
  refine sv (v := .bool (!decide ((Int.tmod a0.Imm ((selvageref15_bounds.m r_6).2.2)) = 0))) rfl rfl rfl (e_bin (tm rfl rfl) rfl (r_neq rfl)) ?_
  refine sv (v := .bool (!decide ((Int.tmod a0.Imm ((selvageref15_bounds.m r_6).2.2)) = 0))) rfl rfl rfl (e_pick (b := ((((((((decide (a0.T < 0)) || (decide (a0.T > o_64))) || (decide (a0.A < 0))) || (decide (a0.A > 31))) || (decide (a0.B < 0))) || (decide (a0.B > 31))) || (decide (a0.Imm < ((selvageref15_bounds.m r_6).1)))) || (decide (a0.Imm > ((selvageref15_bounds.m r_6).2.1))))) (v1 := .bool (!decide ((Int.tmod a0.Imm ((selvageref15_bounds.m r_6).2.2)) = 0))) (v2 := .bool (!decide ((Int.tmod a0.Imm ((selvageref15_bounds.m r_6).2.2)) = 0))) (tm rfl rfl) (fun h_ => pk_no h_74 h_) (fun _ => (tm rfl rfl)) (pk_same _ _)) ?_
  refine k_nil ?_
  obtain rfl := Option.some.inj H
  exact ⟨_, seenF ⟨rfl, rfl, rfl, trivial⟩, hp_68⟩
 clear H
 rintro a w' ⟨σ_76, rfl, hp_77⟩
 have H := G_72
 refine k_if (tm rfl rfl) (fun h_80 => ?_) (fun h_80 => ?_)
 ·have H := ift h_80 H
  refine kq tb hp_77 [] [(2, .int .u32 0), (3, .int .i64 2)] (by kernel_rfl) fun σ => ?_
  refine k_ret ?_
  obtain rfl := Option.some.inj H
  exact k_end rfl (.tmp rfl rfl (.tmp rfl rfl .nil)) rfl ⟨rfl, (hp_77.pick [] (by decide) rfl).aft⟩
 have H := iff_ h_80 H
 refine k_skip ?_
 refine k_seq ?_
 refine k_region ?_
 refine sv (v := .agg #[.int .u32 0, .int .i64 0]) rfl rfl rfl (e_build (vs := []) (cs := [.int .u32 0, .int .i64 0]) .nil (by kernel_rfl)) ?_
 refine s_alloc (zv := .agg #[.int .u32 0, .int .i64 0]) (l := [.int .u32 0, .int .i64 0]) hp_77 (by intro w_; kernel_rfl) rfl rfl (fun b_81 w_82 hp_83 => ?_)
 refine s_store (i := 1) (j := 0) (vs := [.int .u32 0, .int .i64 0]) (l' := [.int .u32 0, .int .i64 0]) hp_83 (tm rfl rfl) (tm rfl rfl) rfl Try.sizeOf103 rfl rfl rfl rfl rfl rfl (fun w_84 hp_85 => ?_)
 refine k_nil ?_
 refine k_seq ?_
 refine kq tb hp_85 [] [(117, .int .i64 r_6)] (by kernel_rfl) fun σ => ?_
 obtain ⟨o_86, H, G_87⟩ := bindSome H
 refine k_cut (fun a w' => ∃ (s_88 : Int × Int) (σ_1020 : Nat → Value), o_86 = Sum.inl s_88 ∧ a = st 308 [(10, .pointer (some ⟨b_81, 0, none⟩))] σ_1020 [] ∧ Hp (On []) no w w w' [[(b_81, .cells #[.int .u32 s_88.1, .int .i64 s_88.2] 103 (0, 0))]]) ?_ ?_
 ·as_aux_lemma =>
  refine k_block ?_
  refine kq tb hp_85 [] [(146, .bool (decide (r_6 = 1)))] (by kernel_rfl) fun σ => ?_
  refine k_if (tm rfl rfl) (fun h_89 => ?_) (fun h_89 => ?_)
  ·as_aux_lemma =>
   have H := ift h_89 H
   refine k_anyF [[0, 1], [0, 1], [0, 1], [0, 1], [0, 1], [0, 1], [0, 1], [0, 1], [0, 1], [0, 1], [0, 1], [0, 1], [0, 1], [0, 1], [0, 1], [0, 1], [0]] [0, 0, 2, 0, 0, 30, 63, 0, 128, 511, 0, 1024, 4095, 0, 8192, 32767, 65535] mixed hp_85 17 (by kernel_rfl) (fun w_90 hp_91 => ?_)
   refine w_takes (f := 8) tb [0, 1] (Wp.of hp_91 [0, 1] rfl) [] [] [] [(1, 0, 0), (10, 1, 0)] [] [1, 7, 10, 13, 0, 2, 8, 11, 14] 28039 [(148, .agg #[.int .u32 0, .int .i64 0]), (150, .int .i64 a0.Op), (156, .int .i64 a0.T), (159, .int .i64 a0.A), (162, .int .i64 a0.Imm)] (fun _ => (po_then (po_x po_body))) rfl rfl (by kernel_rfl) fun σ => ?_
   obtain ⟨r_131, hx_130, H⟩ := bindSome H
   obtain ⟨r_144, hx_143, H⟩ := bindSome H
   obtain ⟨r_157, hx_156, H⟩ := bindSome H
   obtain ⟨r_170, hx_169, H⟩ := bindSome H
   obtain ⟨r_183, hx_182, H⟩ := bindSome H
   refine seenW [(10, .pointer (some ⟨b_81, 0, none⟩)), (148, .agg #[.int .u32 0, .int .i64 0]), (150, .int .i64 a0.Op), (156, .int .i64 a0.T), (159, .int .i64 a0.A), (162, .int .i64 a0.Imm)] ⟨rfl, rfl, rfl, rfl, rfl, rfl, trivial⟩ ?_
   refine w_par (m' := 65535) (fun fl_ gb_ gx_ w_ => Hp (On []) no w w w_ [[(b_1, .cells #[.int .i64 a0.Op, .int .i64 a0.T, .int .i64 a0.A, .int .i64 a0.B, .int .i64 a0.Imm] 44 (0, 0))], [(b_81, .cells #[.int .u32 0, .int .i64 0] 103 (0, 0))], bif fl_ 3 then gx_ 3 else [], bif fl_ 4 then gx_ 4 else []]) [⟨3, some 151, fun b X v => ∃ A_ c_, v = .slice A_ ([1, 2] : List Int).length c_ ∧ Own (intE .i64) no wz 3 A_ c_ ([1, 2] : List Int) X⟩, ⟨4, some 152, fun b X v => ∃ A_ c_, v = .slice A_ ([14, 15] : List Int).length c_ ∧ Own (intE .i64) no wz 3 A_ c_ ([14, 15] : List Int) X⟩, ⟨5, some 153, fun b X v => v = .int .i64 r_131⟩, ⟨6, some 154, fun b X v => v = .agg #[.int .u32 r_144.w, .int .i64 r_144.bits]⟩, ⟨9, some 157, fun b X v => v = .agg #[.int .u32 r_157.w, .int .i64 r_157.bits]⟩, ⟨12, some 160, fun b X v => v = .agg #[.int .u32 r_170.w, .int .i64 r_170.bits]⟩, ⟨15, some 163, fun b X v => v = .agg #[.int .u32 r_183.w, .int .i64 r_183.bits]⟩] ?_ [3, 4, 5, 6, 9, 12, 15] rfl 7 rfl (by kernel_rfl) rfl (by kernel_rfl) (by kernel_rfl) (by kernel_rfl) (by kernel_rfl) (by kernel_rfl) (Hp.cong (hp_91.pick [0, 1, 2, 3] (by decide) rfl) (by kernel_rfl)) ?_ ?_
   ·intro i hi_ fl_ gb_ gx_ w_ hf_ hj_
    simp only [List.map_cons, List.map_nil, List.mem_cons, List.not_mem_nil, or_false] at hi_
    rcases hi_ with rfl | rfl | rfl | rfl | rfl | rfl | rfl
    ·exact Wp.of hj_ [0, 1] rfl
    ·exact Wp.of hj_ [0, 1] rfl
    ·exact Wp.of hj_ [0, 1] rfl
    ·exact Wp.of hj_ [0, 1] rfl
    ·exact Wp.of hj_ [0, 1] rfl
    ·exact Wp.of hj_ [0, 1] rfl
    ·exact Wp.of hj_ [0, 1] rfl
   ·refine .cons [] [] [] rfl rfl rfl (by kernel_rfl) (by kernel_rfl) (by kernel_rfl) ?_ ?_
    ·rintro σ_92 fl_ gb_ gx_ w_93 hj_94 f_95 - - -
     have hp_96 : Hp (On []) no w w w_93 [[(b_1, .cells #[.int .i64 a0.Op, .int .i64 a0.T, .int .i64 a0.A, .int .i64 a0.B, .int .i64 a0.Imm] 44 (0, 0))], [(b_81, .cells #[.int .u32 0, .int .i64 0] 103 (0, 0))], bif fl_ 3 then gx_ 3 else [], bif fl_ 4 then gx_ 4 else []] := hj_94
     refine s_buildC (zv := .int .i64 0) (E := (intE .i64)) (F := no) (wf := wz) (xs := ([1, 2] : List Int)) (cs := [.int .i64 1, .int .i64 2]) (vs := [(0, .int .i64 1), (1, .int .i64 2)]) hp_96 (.cons rfl (.cons rfl .nil)) Try.runUnderlying65 Try.sizeOf3 (by intro w_; kernel_rfl) rfl rfl rfl (Reps.cat.2 rfl) rfl rfl rfl rfl (fun A_97 c_98 w_99 X_100 hp_101 O_102 => ?_)
     refine k_nil ?_
     refine ⟨_, 0, X_100, rfl, ?_, ⟨_, _, rfl, O_102⟩⟩
     exact Hp.cong (hp_101.pick [0, 1, 4, 3] (by decide) rfl) (by kernel_rfl)
    refine .cons [] [] [] rfl rfl rfl (by kernel_rfl) (by kernel_rfl) (by kernel_rfl) ?_ ?_
    ·rintro σ_103 fl_ gb_ gx_ w_104 hj_105 f_106 - - -
     have hp_107 : Hp (On []) no w w w_104 [[(b_1, .cells #[.int .i64 a0.Op, .int .i64 a0.T, .int .i64 a0.A, .int .i64 a0.B, .int .i64 a0.Imm] 44 (0, 0))], [(b_81, .cells #[.int .u32 0, .int .i64 0] 103 (0, 0))], bif fl_ 3 then gx_ 3 else [], bif fl_ 4 then gx_ 4 else []] := hj_105
     refine s_buildC (zv := .int .i64 0) (E := (intE .i64)) (F := no) (wf := wz) (xs := ([14, 15] : List Int)) (cs := [.int .i64 14, .int .i64 15]) (vs := [(0, .int .i64 14), (1, .int .i64 15)]) hp_107 (.cons rfl (.cons rfl .nil)) Try.runUnderlying65 Try.sizeOf3 (by intro w_; kernel_rfl) rfl rfl rfl (Reps.cat.2 rfl) rfl rfl rfl rfl (fun A_108 c_109 w_110 X_111 hp_112 O_113 => ?_)
     refine k_nil ?_
     refine ⟨_, 0, X_111, rfl, ?_, ⟨_, _, rfl, O_113⟩⟩
     exact Hp.cong (hp_112.pick [0, 1, 2, 4] (by decide) rfl) (by kernel_rfl)
    refine .cons [3, 4] [3, 4] [] rfl rfl rfl (by kernel_rfl) (by kernel_rfl) (by kernel_rfl) ?_ ?_
    ·rintro σ_114 fl_ gb_ gx_ w_115 hj_116 f_117 ⟨t_118, t_119, -⟩ - ⟨⟨A_121, c_122, f_120, O_123⟩, ⟨A_125, c_126, f_124, O_127⟩, -⟩
     have hp_128 : Hp (On []) no w w w_115 [[(b_1, .cells #[.int .i64 a0.Op, .int .i64 a0.T, .int .i64 a0.A, .int .i64 a0.B, .int .i64 a0.Imm] 44 (0, 0))], [(b_81, .cells #[.int .u32 0, .int .i64 0] 103 (0, 0))], gx_ 3, gx_ 4] := Hp.cong (R := [[(b_1, .cells #[.int .i64 a0.Op, .int .i64 a0.T, .int .i64 a0.A, .int .i64 a0.B, .int .i64 a0.Imm] 44 (0, 0))], [(b_81, .cells #[.int .u32 0, .int .i64 0] 103 (0, 0))], bif fl_ 3 then gx_ 3 else [], bif fl_ 4 then gx_ 4 else []]) hj_116 (by simp only [t_118, t_119, cond_true, cond_false])
     refine s_call (.cons (tm rfl rfl) (.cons (tm rfl f_120) (.cons (tm rfl f_124) .nil))) Try.call47 (selvageref15_pick.calls a0.Op ([1, 2] : List Int) A_121 c_122 ([14, 15] : List Int) A_125 c_126 r_131 _ _ (Hp.offCov hp_128 [] [[(b_1, .cells #[.int .i64 a0.Op, .int .i64 a0.T, .int .i64 a0.A, .int .i64 a0.B, .int .i64 a0.Imm] 44 (0, 0))], [(b_81, .cells #[.int .u32 0, .int .i64 0] 103 (0, 0))], (gx_ 3), (gx_ 4)] rfl) (Own.pass (Own.any O_123) hp_128 (subRest [] [[(b_1, .cells #[.int .i64 a0.Op, .int .i64 a0.T, .int .i64 a0.A, .int .i64 a0.B, .int .i64 a0.Imm] 44 (0, 0))], [(b_81, .cells #[.int .u32 0, .int .i64 0] 103 (0, 0))], (gx_ 3), (gx_ 4)] rfl) (i := 2) rfl) (Own.pass (Own.any O_127) hp_128 (subRest [] [[(b_1, .cells #[.int .i64 a0.Op, .int .i64 a0.T, .int .i64 a0.A, .int .i64 a0.B, .int .i64 a0.Imm] 44 (0, 0))], [(b_81, .cells #[.int .u32 0, .int .i64 0] 103 (0, 0))], (gx_ 3), (gx_ 4)] rfl) (i := 3) rfl) hx_130) rfl ?_
     rintro v_ w_132 ⟨rfl, af_135⟩
     have hp_133 := Hp.callA af_135 hp_128
     refine k_nil ?_
     refine ⟨_, 0, [], rfl, ?_, rfl⟩
     exact Hp.cong (hp_133) (by first | (simp only [upd, updb, updx, t_118, t_119]; done) | (simp only [upd, updb, updx, t_118, t_119]; kernel_rfl) | kernel_rfl)
    refine .cons [5] [] [] rfl rfl rfl (by kernel_rfl) (by kernel_rfl) (by kernel_rfl) ?_ ?_
    ·rintro σ_136 fl_ gb_ gx_ w_137 hj_138 f_139 - - ⟨f_140, -⟩
     have hp_141 : Hp (On []) no w w w_137 [[(b_1, .cells #[.int .i64 a0.Op, .int .i64 a0.T, .int .i64 a0.A, .int .i64 a0.B, .int .i64 a0.Imm] 44 (0, 0))], [(b_81, .cells #[.int .u32 0, .int .i64 0] 103 (0, 0))], bif fl_ 3 then gx_ 3 else [], bif fl_ 4 then gx_ 4 else []] := hj_138
     refine s_call (.cons (tm rfl rfl) (.cons (tm rfl f_140) (.cons rfl .nil))) Try.call46 (selvageref15_word_put.calls (⟨0, 0⟩ : selvageref15_word) r_131 6 r_144 _ hx_143) rfl ?_
     rintro v_ w_145 ⟨rfl, af_148⟩
     have hp_146 := Hp.callA af_148 hp_141
     refine k_nil ?_
     refine ⟨_, 0, [], rfl, ?_, rfl⟩
     exact Hp.cong (hp_146) (by kernel_rfl)
    refine .cons [6] [] [] rfl rfl rfl (by kernel_rfl) (by kernel_rfl) (by kernel_rfl) ?_ ?_
    ·rintro σ_149 fl_ gb_ gx_ w_150 hj_151 f_152 - - ⟨f_153, -⟩
     have hp_154 : Hp (On []) no w w w_150 [[(b_1, .cells #[.int .i64 a0.Op, .int .i64 a0.T, .int .i64 a0.A, .int .i64 a0.B, .int .i64 a0.Imm] 44 (0, 0))], [(b_81, .cells #[.int .u32 0, .int .i64 0] 103 (0, 0))], bif fl_ 3 then gx_ 3 else [], bif fl_ 4 then gx_ 4 else []] := hj_151
     refine s_call (.cons (tm rfl f_153) (.cons (tm rfl rfl) (.cons rfl .nil))) Try.call46 (selvageref15_word_put.calls r_144 a0.T 5 r_157 _ hx_156) rfl ?_
     rintro v_ w_158 ⟨rfl, af_161⟩
     have hp_159 := Hp.callA af_161 hp_154
     refine k_nil ?_
     refine ⟨_, 0, [], rfl, ?_, rfl⟩
     exact Hp.cong (hp_159) (by kernel_rfl)
    refine .cons [9] [] [] rfl rfl rfl (by kernel_rfl) (by kernel_rfl) (by kernel_rfl) ?_ ?_
    ·rintro σ_162 fl_ gb_ gx_ w_163 hj_164 f_165 - - ⟨f_166, -⟩
     have hp_167 : Hp (On []) no w w w_163 [[(b_1, .cells #[.int .i64 a0.Op, .int .i64 a0.T, .int .i64 a0.A, .int .i64 a0.B, .int .i64 a0.Imm] 44 (0, 0))], [(b_81, .cells #[.int .u32 0, .int .i64 0] 103 (0, 0))], bif fl_ 3 then gx_ 3 else [], bif fl_ 4 then gx_ 4 else []] := hj_164
     refine s_call (.cons (tm rfl f_166) (.cons (tm rfl rfl) (.cons rfl .nil))) Try.call46 (selvageref15_word_put.calls r_157 a0.A 5 r_170 _ hx_169) rfl ?_
     rintro v_ w_171 ⟨rfl, af_174⟩
     have hp_172 := Hp.callA af_174 hp_167
     refine k_nil ?_
     refine ⟨_, 0, [], rfl, ?_, rfl⟩
     exact Hp.cong (hp_172) (by kernel_rfl)
    refine .cons [12] [] [] rfl rfl rfl (by kernel_rfl) (by kernel_rfl) (by kernel_rfl) ?_ ?_
    ·rintro σ_175 fl_ gb_ gx_ w_176 hj_177 f_178 - - ⟨f_179, -⟩
     have hp_180 : Hp (On []) no w w w_176 [[(b_1, .cells #[.int .i64 a0.Op, .int .i64 a0.T, .int .i64 a0.A, .int .i64 a0.B, .int .i64 a0.Imm] 44 (0, 0))], [(b_81, .cells #[.int .u32 0, .int .i64 0] 103 (0, 0))], bif fl_ 3 then gx_ 3 else [], bif fl_ 4 then gx_ 4 else []] := hj_177
     refine s_call (.cons (tm rfl f_179) (.cons (tm rfl rfl) (.cons rfl .nil))) Try.call46 (selvageref15_word_put.calls r_170 a0.Imm 16 r_183 _ hx_182) rfl ?_
     rintro v_ w_184 ⟨rfl, af_187⟩
     have hp_185 := Hp.callA af_187 hp_180
     refine k_nil ?_
     refine ⟨_, 0, [], rfl, ?_, rfl⟩
     exact Hp.cong (hp_185) (by kernel_rfl)
    exact .nil
   rintro σ_188 gb_192 gx_193 w_189 hj_190 ⟨⟨A_197, c_198, f_196, O_199⟩, ⟨A_201, c_202, f_200, O_203⟩, f_204, f_205, f_206, f_207, f_208, -⟩
   have hp_191 := Hp.cong (R' := [[(b_1, .cells #[.int .i64 a0.Op, .int .i64 a0.T, .int .i64 a0.A, .int .i64 a0.B, .int .i64 a0.Imm] 44 (0, 0))], [(b_81, .cells #[.int .u32 0, .int .i64 0] 103 (0, 0))], gx_193 3, gx_193 4]) hj_190 (by kernel_rfl)
   refine seenW [(151, .slice A_197 ([1, 2] : List Int).length c_198), (152, .slice A_201 ([14, 15] : List Int).length c_202), (153, .int .i64 r_131), (154, .agg #[.int .u32 r_144.w, .int .i64 r_144.bits]), (157, .agg #[.int .u32 r_157.w, .int .i64 r_157.bits]), (160, .agg #[.int .u32 r_170.w, .int .i64 r_170.bits]), (163, .agg #[.int .u32 r_183.w, .int .i64 r_183.bits]), (10, .pointer (some ⟨b_81, 0, none⟩)), (148, .agg #[.int .u32 0, .int .i64 0]), (150, .int .i64 a0.Op), (156, .int .i64 a0.T), (159, .int .i64 a0.A), (162, .int .i64 a0.Imm)] ?_ ?_
   ·exact ⟨f_196, f_200, f_204, f_205, f_206, f_207, f_208, rfl, rfl, rfl, rfl, rfl, rfl, trivial⟩
   refine w_one (m' := 131071) 16 rfl (by kernel_rfl) (by kernel_rfl) ?_
   refine s_store (i := 1) (j := 0) (vs := [.int .u32 r_183.w, .int .i64 r_183.bits]) (l' := [.int .u32 r_183.w, .int .i64 r_183.bits]) hp_191 (tm rfl rfl) (tm rfl rfl) rfl Try.sizeOf103 rfl rfl rfl rfl rfl rfl (fun w_209 hp_210 => ?_)
   refine k_nil ?_
   refine ⟨(Wp.of hp_210 [0] rfl), ?_⟩
   refine w_done (by kernel_rfl) ?_
   obtain rfl := Option.some.inj H
   exact ⟨(r_183.w, r_183.bits), _, rfl, seenF ⟨rfl, trivial⟩, hp_210.pick [1] (by decide) rfl⟩
  have H := iff_ h_89 H
  refine kq tb hp_85 [] [(164, .bool (decide (r_6 = 2)))] (by kernel_rfl) fun σ => ?_
  refine k_if (tm rfl rfl) (fun h_211 => ?_) (fun h_211 => ?_)
  ·as_aux_lemma =>
   have H := ift h_211 H
   refine k_anyF [[0, 1], [0, 1], [0, 1], [0, 1], [0, 1], [0, 1], [0, 1], [0, 1], [0, 1], [0, 1], [0, 1], [0, 1], [0, 1], [0, 1], [0, 1], [0, 1], [0]] [0, 0, 2, 0, 0, 30, 63, 0, 128, 511, 0, 1024, 4095, 0, 8192, 32767, 65535] mixed hp_85 17 (by kernel_rfl) (fun w_212 hp_213 => ?_)
   refine w_takes (f := 8) tb [0, 1] (Wp.of hp_213 [0, 1] rfl) [] [] [] [(1, 0, 0), (10, 1, 0)] [] [1, 7, 10, 13, 0, 2, 8, 11, 14] 28039 [(166, .agg #[.int .u32 0, .int .i64 0]), (168, .int .i64 a0.Op), (174, .int .i64 a0.A), (177, .int .i64 a0.T), (180, .int .i64 a0.Imm)] (fun _ => (po_then (po_x po_body))) rfl rfl (by kernel_rfl) fun σ => ?_
   obtain ⟨r_253, hx_252, H⟩ := bindSome H
   obtain ⟨r_266, hx_265, H⟩ := bindSome H
   obtain ⟨r_279, hx_278, H⟩ := bindSome H
   obtain ⟨r_292, hx_291, H⟩ := bindSome H
   obtain ⟨r_305, hx_304, H⟩ := bindSome H
   refine seenW [(10, .pointer (some ⟨b_81, 0, none⟩)), (166, .agg #[.int .u32 0, .int .i64 0]), (168, .int .i64 a0.Op), (174, .int .i64 a0.A), (177, .int .i64 a0.T), (180, .int .i64 a0.Imm)] ⟨rfl, rfl, rfl, rfl, rfl, rfl, trivial⟩ ?_
   refine w_par (m' := 65535) (fun fl_ gb_ gx_ w_ => Hp (On []) no w w w_ [[(b_1, .cells #[.int .i64 a0.Op, .int .i64 a0.T, .int .i64 a0.A, .int .i64 a0.B, .int .i64 a0.Imm] 44 (0, 0))], [(b_81, .cells #[.int .u32 0, .int .i64 0] 103 (0, 0))], bif fl_ 3 then gx_ 3 else [], bif fl_ 4 then gx_ 4 else []]) [⟨3, some 169, fun b X v => ∃ A_ c_, v = .slice A_ ([3, 4] : List Int).length c_ ∧ Own (intE .i64) no wz 3 A_ c_ ([3, 4] : List Int) X⟩, ⟨4, some 170, fun b X v => ∃ A_ c_, v = .slice A_ ([24, 25] : List Int).length c_ ∧ Own (intE .i64) no wz 3 A_ c_ ([24, 25] : List Int) X⟩, ⟨5, some 171, fun b X v => v = .int .i64 r_253⟩, ⟨6, some 172, fun b X v => v = .agg #[.int .u32 r_266.w, .int .i64 r_266.bits]⟩, ⟨9, some 175, fun b X v => v = .agg #[.int .u32 r_279.w, .int .i64 r_279.bits]⟩, ⟨12, some 178, fun b X v => v = .agg #[.int .u32 r_292.w, .int .i64 r_292.bits]⟩, ⟨15, some 181, fun b X v => v = .agg #[.int .u32 r_305.w, .int .i64 r_305.bits]⟩] ?_ [3, 4, 5, 6, 9, 12, 15] rfl 7 rfl (by kernel_rfl) rfl (by kernel_rfl) (by kernel_rfl) (by kernel_rfl) (by kernel_rfl) (by kernel_rfl) (Hp.cong (hp_213.pick [0, 1, 2, 3] (by decide) rfl) (by kernel_rfl)) ?_ ?_
   ·intro i hi_ fl_ gb_ gx_ w_ hf_ hj_
    simp only [List.map_cons, List.map_nil, List.mem_cons, List.not_mem_nil, or_false] at hi_
    rcases hi_ with rfl | rfl | rfl | rfl | rfl | rfl | rfl
    ·exact Wp.of hj_ [0, 1] rfl
    ·exact Wp.of hj_ [0, 1] rfl
    ·exact Wp.of hj_ [0, 1] rfl
    ·exact Wp.of hj_ [0, 1] rfl
    ·exact Wp.of hj_ [0, 1] rfl
    ·exact Wp.of hj_ [0, 1] rfl
    ·exact Wp.of hj_ [0, 1] rfl
   ·refine .cons [] [] [] rfl rfl rfl (by kernel_rfl) (by kernel_rfl) (by kernel_rfl) ?_ ?_
    ·rintro σ_214 fl_ gb_ gx_ w_215 hj_216 f_217 - - -
     have hp_218 : Hp (On []) no w w w_215 [[(b_1, .cells #[.int .i64 a0.Op, .int .i64 a0.T, .int .i64 a0.A, .int .i64 a0.B, .int .i64 a0.Imm] 44 (0, 0))], [(b_81, .cells #[.int .u32 0, .int .i64 0] 103 (0, 0))], bif fl_ 3 then gx_ 3 else [], bif fl_ 4 then gx_ 4 else []] := hj_216
     refine s_buildC (zv := .int .i64 0) (E := (intE .i64)) (F := no) (wf := wz) (xs := ([3, 4] : List Int)) (cs := [.int .i64 3, .int .i64 4]) (vs := [(0, .int .i64 3), (1, .int .i64 4)]) hp_218 (.cons rfl (.cons rfl .nil)) Try.runUnderlying65 Try.sizeOf3 (by intro w_; kernel_rfl) rfl rfl rfl (Reps.cat.2 rfl) rfl rfl rfl rfl (fun A_219 c_220 w_221 X_222 hp_223 O_224 => ?_)
     refine k_nil ?_
     refine ⟨_, 0, X_222, rfl, ?_, ⟨_, _, rfl, O_224⟩⟩
     exact Hp.cong (hp_223.pick [0, 1, 4, 3] (by decide) rfl) (by kernel_rfl)
    refine .cons [] [] [] rfl rfl rfl (by kernel_rfl) (by kernel_rfl) (by kernel_rfl) ?_ ?_
    ·rintro σ_225 fl_ gb_ gx_ w_226 hj_227 f_228 - - -
     have hp_229 : Hp (On []) no w w w_226 [[(b_1, .cells #[.int .i64 a0.Op, .int .i64 a0.T, .int .i64 a0.A, .int .i64 a0.B, .int .i64 a0.Imm] 44 (0, 0))], [(b_81, .cells #[.int .u32 0, .int .i64 0] 103 (0, 0))], bif fl_ 3 then gx_ 3 else [], bif fl_ 4 then gx_ 4 else []] := hj_227
     refine s_buildC (zv := .int .i64 0) (E := (intE .i64)) (F := no) (wf := wz) (xs := ([24, 25] : List Int)) (cs := [.int .i64 24, .int .i64 25]) (vs := [(0, .int .i64 24), (1, .int .i64 25)]) hp_229 (.cons rfl (.cons rfl .nil)) Try.runUnderlying65 Try.sizeOf3 (by intro w_; kernel_rfl) rfl rfl rfl (Reps.cat.2 rfl) rfl rfl rfl rfl (fun A_230 c_231 w_232 X_233 hp_234 O_235 => ?_)
     refine k_nil ?_
     refine ⟨_, 0, X_233, rfl, ?_, ⟨_, _, rfl, O_235⟩⟩
     exact Hp.cong (hp_234.pick [0, 1, 2, 4] (by decide) rfl) (by kernel_rfl)
    refine .cons [3, 4] [3, 4] [] rfl rfl rfl (by kernel_rfl) (by kernel_rfl) (by kernel_rfl) ?_ ?_
    ·rintro σ_236 fl_ gb_ gx_ w_237 hj_238 f_239 ⟨t_240, t_241, -⟩ - ⟨⟨A_243, c_244, f_242, O_245⟩, ⟨A_247, c_248, f_246, O_249⟩, -⟩
     have hp_250 : Hp (On []) no w w w_237 [[(b_1, .cells #[.int .i64 a0.Op, .int .i64 a0.T, .int .i64 a0.A, .int .i64 a0.B, .int .i64 a0.Imm] 44 (0, 0))], [(b_81, .cells #[.int .u32 0, .int .i64 0] 103 (0, 0))], gx_ 3, gx_ 4] := Hp.cong (R := [[(b_1, .cells #[.int .i64 a0.Op, .int .i64 a0.T, .int .i64 a0.A, .int .i64 a0.B, .int .i64 a0.Imm] 44 (0, 0))], [(b_81, .cells #[.int .u32 0, .int .i64 0] 103 (0, 0))], bif fl_ 3 then gx_ 3 else [], bif fl_ 4 then gx_ 4 else []]) hj_238 (by simp only [t_240, t_241, cond_true, cond_false])
     refine s_call (.cons (tm rfl rfl) (.cons (tm rfl f_242) (.cons (tm rfl f_246) .nil))) Try.call47 (selvageref15_pick.calls a0.Op ([3, 4] : List Int) A_243 c_244 ([24, 25] : List Int) A_247 c_248 r_253 _ _ (Hp.offCov hp_250 [] [[(b_1, .cells #[.int .i64 a0.Op, .int .i64 a0.T, .int .i64 a0.A, .int .i64 a0.B, .int .i64 a0.Imm] 44 (0, 0))], [(b_81, .cells #[.int .u32 0, .int .i64 0] 103 (0, 0))], (gx_ 3), (gx_ 4)] rfl) (Own.pass (Own.any O_245) hp_250 (subRest [] [[(b_1, .cells #[.int .i64 a0.Op, .int .i64 a0.T, .int .i64 a0.A, .int .i64 a0.B, .int .i64 a0.Imm] 44 (0, 0))], [(b_81, .cells #[.int .u32 0, .int .i64 0] 103 (0, 0))], (gx_ 3), (gx_ 4)] rfl) (i := 2) rfl) (Own.pass (Own.any O_249) hp_250 (subRest [] [[(b_1, .cells #[.int .i64 a0.Op, .int .i64 a0.T, .int .i64 a0.A, .int .i64 a0.B, .int .i64 a0.Imm] 44 (0, 0))], [(b_81, .cells #[.int .u32 0, .int .i64 0] 103 (0, 0))], (gx_ 3), (gx_ 4)] rfl) (i := 3) rfl) hx_252) rfl ?_
     rintro v_ w_254 ⟨rfl, af_257⟩
     have hp_255 := Hp.callA af_257 hp_250
     refine k_nil ?_
     refine ⟨_, 0, [], rfl, ?_, rfl⟩
     exact Hp.cong (hp_255) (by first | (simp only [upd, updb, updx, t_240, t_241]; done) | (simp only [upd, updb, updx, t_240, t_241]; kernel_rfl) | kernel_rfl)
    refine .cons [5] [] [] rfl rfl rfl (by kernel_rfl) (by kernel_rfl) (by kernel_rfl) ?_ ?_
    ·rintro σ_258 fl_ gb_ gx_ w_259 hj_260 f_261 - - ⟨f_262, -⟩
     have hp_263 : Hp (On []) no w w w_259 [[(b_1, .cells #[.int .i64 a0.Op, .int .i64 a0.T, .int .i64 a0.A, .int .i64 a0.B, .int .i64 a0.Imm] 44 (0, 0))], [(b_81, .cells #[.int .u32 0, .int .i64 0] 103 (0, 0))], bif fl_ 3 then gx_ 3 else [], bif fl_ 4 then gx_ 4 else []] := hj_260
     refine s_call (.cons (tm rfl rfl) (.cons (tm rfl f_262) (.cons rfl .nil))) Try.call46 (selvageref15_word_put.calls (⟨0, 0⟩ : selvageref15_word) r_253 6 r_266 _ hx_265) rfl ?_
     rintro v_ w_267 ⟨rfl, af_270⟩
     have hp_268 := Hp.callA af_270 hp_263
     refine k_nil ?_
     refine ⟨_, 0, [], rfl, ?_, rfl⟩
     exact Hp.cong (hp_268) (by kernel_rfl)
    refine .cons [6] [] [] rfl rfl rfl (by kernel_rfl) (by kernel_rfl) (by kernel_rfl) ?_ ?_
    ·rintro σ_271 fl_ gb_ gx_ w_272 hj_273 f_274 - - ⟨f_275, -⟩
     have hp_276 : Hp (On []) no w w w_272 [[(b_1, .cells #[.int .i64 a0.Op, .int .i64 a0.T, .int .i64 a0.A, .int .i64 a0.B, .int .i64 a0.Imm] 44 (0, 0))], [(b_81, .cells #[.int .u32 0, .int .i64 0] 103 (0, 0))], bif fl_ 3 then gx_ 3 else [], bif fl_ 4 then gx_ 4 else []] := hj_273
     refine s_call (.cons (tm rfl f_275) (.cons (tm rfl rfl) (.cons rfl .nil))) Try.call46 (selvageref15_word_put.calls r_266 a0.A 5 r_279 _ hx_278) rfl ?_
     rintro v_ w_280 ⟨rfl, af_283⟩
     have hp_281 := Hp.callA af_283 hp_276
     refine k_nil ?_
     refine ⟨_, 0, [], rfl, ?_, rfl⟩
     exact Hp.cong (hp_281) (by kernel_rfl)
    refine .cons [9] [] [] rfl rfl rfl (by kernel_rfl) (by kernel_rfl) (by kernel_rfl) ?_ ?_
    ·rintro σ_284 fl_ gb_ gx_ w_285 hj_286 f_287 - - ⟨f_288, -⟩
     have hp_289 : Hp (On []) no w w w_285 [[(b_1, .cells #[.int .i64 a0.Op, .int .i64 a0.T, .int .i64 a0.A, .int .i64 a0.B, .int .i64 a0.Imm] 44 (0, 0))], [(b_81, .cells #[.int .u32 0, .int .i64 0] 103 (0, 0))], bif fl_ 3 then gx_ 3 else [], bif fl_ 4 then gx_ 4 else []] := hj_286
     refine s_call (.cons (tm rfl f_288) (.cons (tm rfl rfl) (.cons rfl .nil))) Try.call46 (selvageref15_word_put.calls r_279 a0.T 5 r_292 _ hx_291) rfl ?_
     rintro v_ w_293 ⟨rfl, af_296⟩
     have hp_294 := Hp.callA af_296 hp_289
     refine k_nil ?_
     refine ⟨_, 0, [], rfl, ?_, rfl⟩
     exact Hp.cong (hp_294) (by kernel_rfl)
    refine .cons [12] [] [] rfl rfl rfl (by kernel_rfl) (by kernel_rfl) (by kernel_rfl) ?_ ?_
    ·rintro σ_297 fl_ gb_ gx_ w_298 hj_299 f_300 - - ⟨f_301, -⟩
     have hp_302 : Hp (On []) no w w w_298 [[(b_1, .cells #[.int .i64 a0.Op, .int .i64 a0.T, .int .i64 a0.A, .int .i64 a0.B, .int .i64 a0.Imm] 44 (0, 0))], [(b_81, .cells #[.int .u32 0, .int .i64 0] 103 (0, 0))], bif fl_ 3 then gx_ 3 else [], bif fl_ 4 then gx_ 4 else []] := hj_299
     refine s_call (.cons (tm rfl f_301) (.cons (tm rfl rfl) (.cons rfl .nil))) Try.call46 (selvageref15_word_put.calls r_292 a0.Imm 16 r_305 _ hx_304) rfl ?_
     rintro v_ w_306 ⟨rfl, af_309⟩
     have hp_307 := Hp.callA af_309 hp_302
     refine k_nil ?_
     refine ⟨_, 0, [], rfl, ?_, rfl⟩
     exact Hp.cong (hp_307) (by kernel_rfl)
    exact .nil
   rintro σ_310 gb_314 gx_315 w_311 hj_312 ⟨⟨A_319, c_320, f_318, O_321⟩, ⟨A_323, c_324, f_322, O_325⟩, f_326, f_327, f_328, f_329, f_330, -⟩
   have hp_313 := Hp.cong (R' := [[(b_1, .cells #[.int .i64 a0.Op, .int .i64 a0.T, .int .i64 a0.A, .int .i64 a0.B, .int .i64 a0.Imm] 44 (0, 0))], [(b_81, .cells #[.int .u32 0, .int .i64 0] 103 (0, 0))], gx_315 3, gx_315 4]) hj_312 (by kernel_rfl)
   refine seenW [(169, .slice A_319 ([3, 4] : List Int).length c_320), (170, .slice A_323 ([24, 25] : List Int).length c_324), (171, .int .i64 r_253), (172, .agg #[.int .u32 r_266.w, .int .i64 r_266.bits]), (175, .agg #[.int .u32 r_279.w, .int .i64 r_279.bits]), (178, .agg #[.int .u32 r_292.w, .int .i64 r_292.bits]), (181, .agg #[.int .u32 r_305.w, .int .i64 r_305.bits]), (10, .pointer (some ⟨b_81, 0, none⟩)), (166, .agg #[.int .u32 0, .int .i64 0]), (168, .int .i64 a0.Op), (174, .int .i64 a0.A), (177, .int .i64 a0.T), (180, .int .i64 a0.Imm)] ?_ ?_
   ·exact ⟨f_318, f_322, f_326, f_327, f_328, f_329, f_330, rfl, rfl, rfl, rfl, rfl, rfl, trivial⟩
   refine w_one (m' := 131071) 16 rfl (by kernel_rfl) (by kernel_rfl) ?_
   refine s_store (i := 1) (j := 0) (vs := [.int .u32 r_305.w, .int .i64 r_305.bits]) (l' := [.int .u32 r_305.w, .int .i64 r_305.bits]) hp_313 (tm rfl rfl) (tm rfl rfl) rfl Try.sizeOf103 rfl rfl rfl rfl rfl rfl (fun w_331 hp_332 => ?_)
   refine k_nil ?_
   refine ⟨(Wp.of hp_332 [0] rfl), ?_⟩
   refine w_done (by kernel_rfl) ?_
   obtain rfl := Option.some.inj H
   exact ⟨(r_305.w, r_305.bits), _, rfl, seenF ⟨rfl, trivial⟩, hp_332.pick [1] (by decide) rfl⟩
  have H := iff_ h_211 H
  refine kq tb hp_85 [] [(182, .bool (decide (r_6 = 3)))] (by kernel_rfl) fun σ => ?_
  refine k_if (tm rfl rfl) (fun h_333 => ?_) (fun h_333 => ?_)
  ·as_aux_lemma =>
   have H := ift h_333 H
   refine k_anyF [[0, 1], [0, 1], [0, 1], [0, 1], [0, 1], [0, 1], [0, 1], [0, 1], [0, 1], [0, 1], [0, 1], [0, 1], [0, 1], [0, 1], [0, 1], [0, 1], [0, 1], [0, 1], [0, 1], [0, 1], [0, 1], [0, 1], [0, 1], [0, 1], [0, 1], [0, 1], [0]] [0, 1, 0, 4, 15, 0, 32, 127, 0, 256, 1023, 0, 2048, 6144, 16383, 0, 32768, 98304, 229376, 524287, 1048575, 0, 2097152, 6291456, 16777215, 33554431, 67108863] mixed hp_85 27 (by kernel_rfl) (fun w_334 hp_335 => ?_)
   refine w_takes (f := 10) tb [0, 1] (Wp.of hp_335 [0, 1] rfl) [] [] [] [(1, 0, 0), (10, 1, 0)] [] [2, 5, 8, 11, 15, 21, 0, 3, 6, 9, 12, 13, 16, 17, 18, 22, 23] 15186797 [(184, .agg #[.int .u32 0, .int .i64 0]), (187, .int .i64 a0.A), (190, .int .i64 a0.T), (193, .int .i64 a0.Imm), (197, .int .i64 (wrap64 (63 - a0.Imm))), (202, .int .i64 (wrap64 (Int.tdiv (wrap64 (63 - a0.Imm)) 32))), (207, .int .i64 (wrap64 (Int.tdiv a0.Imm 32)))] (fun _ => (po_then (po_x po_body))) rfl rfl (by kernel_rfl) fun σ => ?_
   refine w_one (m' := 15186799) 1 rfl (by kernel_rfl) (by kernel_rfl) ?_
   obtain ⟨r_338, hx_337, H⟩ := bindSome H
   refine s_call (.cons (tm rfl rfl) (.cons rfl (.cons rfl .nil))) Try.call46 (selvageref15_word_put.calls (⟨0, 0⟩ : selvageref15_word) 30 6 r_338 _ hx_337) rfl ?_
   rintro v_ w_339 ⟨rfl, af_342⟩
   have hp_340 := Hp.callA af_342 hp_335
   refine k_nil ?_
   refine ⟨(Wp.of hp_340 [0, 1] rfl), ?_⟩
   refine w_one (m' := 15186815) 4 rfl (by kernel_rfl) (by kernel_rfl) ?_
   obtain ⟨r_345, hx_344, H⟩ := bindSome H
   refine s_call (.cons (tm rfl rfl) (.cons (tm rfl rfl) (.cons rfl .nil))) Try.call46 (selvageref15_word_put.calls r_338 a0.A 5 r_345 _ hx_344) rfl ?_
   rintro v_ w_346 ⟨rfl, af_349⟩
   have hp_347 := Hp.callA af_349 hp_340
   refine k_nil ?_
   refine ⟨(Wp.of hp_347 [0, 1] rfl), ?_⟩
   refine w_one (m' := 15186943) 7 rfl (by kernel_rfl) (by kernel_rfl) ?_
   obtain ⟨r_352, hx_351, H⟩ := bindSome H
   refine s_call (.cons (tm rfl rfl) (.cons (tm rfl rfl) (.cons rfl .nil))) Try.call46 (selvageref15_word_put.calls r_345 a0.T 5 r_352 _ hx_351) rfl ?_
   rintro v_ w_353 ⟨rfl, af_356⟩
   have hp_354 := Hp.callA af_356 hp_347
   refine k_nil ?_
   refine ⟨(Wp.of hp_354 [0, 1] rfl), ?_⟩
   refine w_one (m' := 15187967) 10 rfl (by kernel_rfl) (by kernel_rfl) ?_
   obtain ⟨r_359, hx_358, H⟩ := bindSome H
   refine s_call (.cons (tm rfl rfl) (.cons (tm rfl rfl) (.cons rfl .nil))) Try.call46 (selvageref15_word_put.calls r_352 a0.Imm 5 r_359 _ hx_358) rfl ?_
   rintro v_ w_360 ⟨rfl, af_363⟩
   have hp_361 := Hp.callA af_363 hp_354
   refine k_nil ?_
   refine ⟨(Wp.of hp_361 [0, 1] rfl), ?_⟩
   refine w_one (m' := 15204351) 14 rfl (by kernel_rfl) (by kernel_rfl) ?_
   obtain ⟨r_366, hx_365, H⟩ := bindSome H
   refine s_call (.cons (tm rfl rfl) (.cons (tm rfl rfl) (.cons rfl .nil))) Try.call46 (selvageref15_word_put.calls r_359 (wrap64 (63 - a0.Imm)) 5 r_366 _ hx_365) rfl ?_
   rintro v_ w_367 ⟨rfl, af_370⟩
   have hp_368 := Hp.callA af_370 hp_361
   refine k_nil ?_
   refine ⟨(Wp.of hp_368 [0, 1] rfl), ?_⟩
   refine w_one (m' := 15728639) 19 rfl (by kernel_rfl) (by kernel_rfl) ?_
   obtain ⟨r_373, hx_372, H⟩ := bindSome H
   refine s_call (.cons (tm rfl rfl) (.cons (tm rfl rfl) (.cons rfl .nil))) Try.call46 (selvageref15_word_put.calls r_366 (wrap64 (Int.tdiv (wrap64 (63 - a0.Imm)) 32)) 1 r_373 _ hx_372) rfl ?_
   rintro v_ w_374 ⟨rfl, af_377⟩
   have hp_375 := Hp.callA af_377 hp_368
   refine k_nil ?_
   refine ⟨(Wp.of hp_375 [0, 1] rfl), ?_⟩
   refine w_one (m' := 16777215) 20 rfl (by kernel_rfl) (by kernel_rfl) ?_
   obtain ⟨r_380, hx_379, H⟩ := bindSome H
   refine s_call (.cons (tm rfl rfl) (.cons rfl (.cons rfl .nil))) Try.call46 (selvageref15_word_put.calls r_373 1 3 r_380 _ hx_379) rfl ?_
   rintro v_ w_381 ⟨rfl, af_384⟩
   have hp_382 := Hp.callA af_384 hp_375
   refine k_nil ?_
   refine ⟨(Wp.of hp_382 [0, 1] rfl), ?_⟩
   refine w_one (m' := 33554431) 24 rfl (by kernel_rfl) (by kernel_rfl) ?_
   obtain ⟨r_387, hx_386, H⟩ := bindSome H
   refine s_call (.cons (tm rfl rfl) (.cons (tm rfl rfl) (.cons rfl .nil))) Try.call46 (selvageref15_word_put.calls r_380 (wrap64 (Int.tdiv a0.Imm 32)) 1 r_387 _ hx_386) rfl ?_
   rintro v_ w_388 ⟨rfl, af_391⟩
   have hp_389 := Hp.callA af_391 hp_382
   refine k_nil ?_
   refine ⟨(Wp.of hp_389 [0, 1] rfl), ?_⟩
   refine w_one (m' := 67108863) 25 rfl (by kernel_rfl) (by kernel_rfl) ?_
   obtain ⟨r_394, hx_393, H⟩ := bindSome H
   refine s_call (.cons (tm rfl rfl) (.cons rfl (.cons rfl .nil))) Try.call46 (selvageref15_word_put.calls r_387 0 1 r_394 _ hx_393) rfl ?_
   rintro v_ w_395 ⟨rfl, af_398⟩
   have hp_396 := Hp.callA af_398 hp_389
   refine k_nil ?_
   refine ⟨(Wp.of hp_396 [0, 1] rfl), ?_⟩
   refine w_one (m' := 134217727) 26 rfl (by kernel_rfl) (by kernel_rfl) ?_
   refine s_store (i := 1) (j := 0) (vs := [.int .u32 r_394.w, .int .i64 r_394.bits]) (l' := [.int .u32 r_394.w, .int .i64 r_394.bits]) hp_396 (tm rfl rfl) (tm rfl rfl) rfl Try.sizeOf103 rfl rfl rfl rfl rfl rfl (fun w_399 hp_400 => ?_)
   refine k_nil ?_
   refine ⟨(Wp.of hp_400 [0] rfl), ?_⟩
   refine w_done (by kernel_rfl) ?_
   obtain rfl := Option.some.inj H
   exact ⟨(r_394.w, r_394.bits), _, rfl, seenF ⟨rfl, trivial⟩, hp_400.pick [1] (by decide) rfl⟩
  have H := iff_ h_333 H
  refine kq tb hp_85 [] [(210, .bool (decide (r_6 = 4)))] (by kernel_rfl) fun σ => ?_
  refine k_if (tm rfl rfl) (fun h_401 => ?_) (fun h_401 => ?_)
  ·as_aux_lemma =>
   have H := ift h_401 H
   refine k_seq ?_
   refine k_region ?_
   refine sr tb hp_85 [(1, 0, 0)] 2 [(213, .int .i64 a0.Op)] (by kernel_rfl) fun σ => ?_
   refine s_buildC (zv := .int .i64 0) (E := (intE .i64)) (F := no) (wf := wz) (xs := ([6, 7, 8, 9, 12, 13, 14, 15] : List Int)) (cs := [.int .i64 6, .int .i64 7, .int .i64 8, .int .i64 9, .int .i64 12, .int .i64 13, .int .i64 14, .int .i64 15]) (vs := [(0, .int .i64 6), (1, .int .i64 7), (2, .int .i64 8), (3, .int .i64 9), (4, .int .i64 12), (5, .int .i64 13), (6, .int .i64 14), (7, .int .i64 15)]) hp_85 (.cons rfl (.cons rfl (.cons rfl (.cons rfl (.cons rfl (.cons rfl (.cons rfl (.cons rfl .nil)))))))) Try.runUnderlying65 Try.sizeOf3 (by intro w_; kernel_rfl) rfl rfl rfl (Reps.cat.2 rfl) rfl rfl rfl rfl (fun A_402 c_403 w_404 X_405 hp_406 O_407 => ?_)
   refine s_buildC (zv := .int .i64 0) (E := (intE .i64)) (F := no) (wf := wz) (xs := ([266, 40, 233, 489, 21, 149, 84, 214] : List Int)) (cs := [.int .i64 266, .int .i64 40, .int .i64 233, .int .i64 489, .int .i64 21, .int .i64 149, .int .i64 84, .int .i64 214]) (vs := [(0, .int .i64 266), (1, .int .i64 40), (2, .int .i64 233), (3, .int .i64 489), (4, .int .i64 21), (5, .int .i64 149), (6, .int .i64 84), (7, .int .i64 214)]) hp_406 (.cons rfl (.cons rfl (.cons rfl (.cons rfl (.cons rfl (.cons rfl (.cons rfl (.cons rfl .nil)))))))) Try.runUnderlying65 Try.sizeOf3 (by intro w_; kernel_rfl) rfl rfl rfl (Reps.cat.2 rfl) rfl rfl rfl rfl (fun A_408 c_409 w_410 X_411 hp_412 O_413 => ?_)
   obtain ⟨r_416, hx_415, H⟩ := bindSome H
   refine s_call (.cons (tm rfl rfl) (.cons (tm rfl rfl) (.cons (tm rfl rfl) .nil))) Try.call47 (selvageref15_pick.calls a0.Op ([6, 7, 8, 9, 12, 13, 14, 15] : List Int) A_402 c_403 ([266, 40, 233, 489, 21, 149, 84, 214] : List Int) A_408 c_409 r_416 _ _ (Hp.offCov hp_412 [] [[(b_1, .cells #[.int .i64 a0.Op, .int .i64 a0.T, .int .i64 a0.A, .int .i64 a0.B, .int .i64 a0.Imm] 44 (0, 0))], [(b_81, .cells #[.int .u32 0, .int .i64 0] 103 (0, 0))], X_405, X_411] rfl) (Own.pass (Own.any O_407) hp_412 (subRest [] [[(b_1, .cells #[.int .i64 a0.Op, .int .i64 a0.T, .int .i64 a0.A, .int .i64 a0.B, .int .i64 a0.Imm] 44 (0, 0))], [(b_81, .cells #[.int .u32 0, .int .i64 0] 103 (0, 0))], X_405, X_411] rfl) (i := 2) rfl) (Own.pass (Own.any O_413) hp_412 (subRest [] [[(b_1, .cells #[.int .i64 a0.Op, .int .i64 a0.T, .int .i64 a0.A, .int .i64 a0.B, .int .i64 a0.Imm] 44 (0, 0))], [(b_81, .cells #[.int .u32 0, .int .i64 0] 103 (0, 0))], X_405, X_411] rfl) (i := 3) rfl) hx_415) rfl ?_
   rintro v_ w_417 ⟨rfl, af_420⟩
   have hp_418 := Hp.callA af_420 hp_412
   refine sv (v := .int .i64 r_416) rfl rfl rfl (e_assign (tm rfl rfl)) ?_
   refine k_nil ?_
   refine kq tb hp_418 [] [(12, .int .i64 0)] (by kernel_rfl) fun σ => ?_
   refine k_seq ?_
   refine kq tb hp_418 [(1, 0, 0)] [(219, .bool (decide (a0.Op = 15)))] (by kernel_rfl) fun σ => ?_
   obtain ⟨o_421, H, G_422⟩ := bindSome H
   refine k_cut (fun a w' => ∃ (σ_475 : Nat → Value), a = st 308 [(1, .pointer (some ⟨b_1, 0, none⟩)), (10, .pointer (some ⟨b_81, 0, none⟩)), (11, .int .i64 r_416), (12, .int .i64 o_421)] σ_475 [] ∧ Hp (On []) no w w w' [[(b_1, .cells #[.int .i64 a0.Op, .int .i64 a0.T, .int .i64 a0.A, .int .i64 a0.B, .int .i64 a0.Imm] 44 (0, 0))], [(b_81, .cells #[.int .u32 0, .int .i64 0] 103 (0, 0))]]) ?_ ?_
   ·refine k_if (tm rfl rfl) (fun h_423 => ?_) (fun h_423 => ?_)
    ·have H := ift h_423 H
     refine kr tb hp_418 [] [(12, .int .i64 1)] (by kernel_rfl) fun σ => ?_
     obtain rfl := Option.some.inj H
     exact ⟨_, seenF ⟨rfl, rfl, rfl, rfl, trivial⟩, hp_418.pick [0, 1] (by decide) rfl⟩
    have H := iff_ h_423 H
    refine k_skip ?_
    obtain rfl := Option.some.inj H
    exact ⟨_, seenF ⟨rfl, rfl, rfl, rfl, trivial⟩, hp_418.pick [0, 1] (by decide) rfl⟩
   clear H
   rintro a w' ⟨σ_424, rfl, hp_425⟩
   have H := G_422
   refine k_anyF [[0, 1], [0, 1], [0, 1], [0, 1], [0, 1], [0, 1], [0, 1], [0, 1], [0, 1], [0, 1], [0, 1], [0, 1], [0, 1], [0, 1], [0, 1], [0]] [0, 1, 0, 4, 15, 0, 32, 127, 0, 256, 1023, 0, 4095, 0, 16383, 32767] mixed hp_425 16 (by kernel_rfl) (fun w_428 hp_429 => ?_)
   refine w_takes (f := 7) tb [0, 1] (Wp.of hp_429 [0, 1] rfl) [] [] [] [(1, 0, 0), (10, 1, 0)] [] [2, 5, 8, 11, 13, 0, 3, 6, 9] 11117 [(231, .int .i64 r_416), (233, .int .i64 o_421), (220, .agg #[.int .u32 0, .int .i64 0]), (223, .int .i64 a0.T), (226, .int .i64 a0.A), (229, .int .i64 a0.B)] (fun _ => (po_then (po_x po_body))) rfl rfl (by kernel_rfl) fun σ => ?_
   refine w_one (m' := 11119) 1 rfl (by kernel_rfl) (by kernel_rfl) ?_
   obtain ⟨r_432, hx_431, H⟩ := bindSome H
   refine s_call (.cons (tm rfl rfl) (.cons rfl (.cons rfl .nil))) Try.call46 (selvageref15_word_put.calls (⟨0, 0⟩ : selvageref15_word) 31 6 r_432 _ hx_431) rfl ?_
   rintro v_ w_433 ⟨rfl, af_436⟩
   have hp_434 := Hp.callA af_436 hp_429
   refine k_nil ?_
   refine ⟨(Wp.of hp_434 [0, 1] rfl), ?_⟩
   refine w_one (m' := 11135) 4 rfl (by kernel_rfl) (by kernel_rfl) ?_
   obtain ⟨r_439, hx_438, H⟩ := bindSome H
   refine s_call (.cons (tm rfl rfl) (.cons (tm rfl rfl) (.cons rfl .nil))) Try.call46 (selvageref15_word_put.calls r_432 a0.T 5 r_439 _ hx_438) rfl ?_
   rintro v_ w_440 ⟨rfl, af_443⟩
   have hp_441 := Hp.callA af_443 hp_434
   refine k_nil ?_
   refine ⟨(Wp.of hp_441 [0, 1] rfl), ?_⟩
   refine w_one (m' := 11263) 7 rfl (by kernel_rfl) (by kernel_rfl) ?_
   obtain ⟨r_446, hx_445, H⟩ := bindSome H
   refine s_call (.cons (tm rfl rfl) (.cons (tm rfl rfl) (.cons rfl .nil))) Try.call46 (selvageref15_word_put.calls r_439 a0.A 5 r_446 _ hx_445) rfl ?_
   rintro v_ w_447 ⟨rfl, af_450⟩
   have hp_448 := Hp.callA af_450 hp_441
   refine k_nil ?_
   refine ⟨(Wp.of hp_448 [0, 1] rfl), ?_⟩
   refine w_one (m' := 12287) 10 rfl (by kernel_rfl) (by kernel_rfl) ?_
   obtain ⟨r_453, hx_452, H⟩ := bindSome H
   refine s_call (.cons (tm rfl rfl) (.cons (tm rfl rfl) (.cons rfl .nil))) Try.call46 (selvageref15_word_put.calls r_446 a0.B 5 r_453 _ hx_452) rfl ?_
   rintro v_ w_454 ⟨rfl, af_457⟩
   have hp_455 := Hp.callA af_457 hp_448
   refine k_nil ?_
   refine ⟨(Wp.of hp_455 [0, 1] rfl), ?_⟩
   refine w_one (m' := 16383) 12 rfl (by kernel_rfl) (by kernel_rfl) ?_
   obtain ⟨r_460, hx_459, H⟩ := bindSome H
   refine s_call (.cons (tm rfl rfl) (.cons (tm rfl rfl) (.cons rfl .nil))) Try.call46 (selvageref15_word_put.calls r_453 r_416 10 r_460 _ hx_459) rfl ?_
   rintro v_ w_461 ⟨rfl, af_464⟩
   have hp_462 := Hp.callA af_464 hp_455
   refine k_nil ?_
   refine ⟨(Wp.of hp_462 [0, 1] rfl), ?_⟩
   refine w_one (m' := 32767) 14 rfl (by kernel_rfl) (by kernel_rfl) ?_
   obtain ⟨r_467, hx_466, H⟩ := bindSome H
   refine s_call (.cons (tm rfl rfl) (.cons (tm rfl rfl) (.cons rfl .nil))) Try.call46 (selvageref15_word_put.calls r_460 o_421 1 r_467 _ hx_466) rfl ?_
   rintro v_ w_468 ⟨rfl, af_471⟩
   have hp_469 := Hp.callA af_471 hp_462
   refine k_nil ?_
   refine ⟨(Wp.of hp_469 [0, 1] rfl), ?_⟩
   refine w_one (m' := 65535) 15 rfl (by kernel_rfl) (by kernel_rfl) ?_
   refine s_store (i := 1) (j := 0) (vs := [.int .u32 r_467.w, .int .i64 r_467.bits]) (l' := [.int .u32 r_467.w, .int .i64 r_467.bits]) hp_469 (tm rfl rfl) (tm rfl rfl) rfl Try.sizeOf103 rfl rfl rfl rfl rfl rfl (fun w_472 hp_473 => ?_)
   refine k_nil ?_
   refine ⟨(Wp.of hp_473 [0] rfl), ?_⟩
   refine w_done (by kernel_rfl) ?_
   obtain rfl := Option.some.inj H
   exact ⟨(r_467.w, r_467.bits), _, rfl, seenF ⟨rfl, trivial⟩, hp_473.pick [1] (by decide) rfl⟩
  have H := iff_ h_401 H
  refine kq tb hp_85 [] [(235, .bool (decide (r_6 = 5)))] (by kernel_rfl) fun σ => ?_
  refine k_if (tm rfl rfl) (fun h_475 => ?_) (fun h_475 => ?_)
  ·as_aux_lemma =>
   have H := ift h_475 H
   refine k_anyF [[0, 1], [0, 1], [0, 1], [0, 1], [0, 1], [0, 1], [0, 1], [0, 1], [0, 1], [0, 1], [0, 1], [0, 1], [0, 1], [0, 1], [0, 1], [0, 1], [0, 1], [0, 1], [0]] [0, 0, 2, 0, 0, 30, 63, 0, 128, 511, 0, 1024, 4095, 0, 8192, 24576, 65535, 131071, 262143] mixed hp_85 19 (by kernel_rfl) (fun w_476 hp_477 => ?_)
   refine w_takes (f := 9) tb [0, 1] (Wp.of hp_477 [0, 1] rfl) [] [] [] [(1, 0, 0), (10, 1, 0)] [] [1, 7, 10, 13, 0, 2, 8, 11, 14, 15] 60807 [(237, .agg #[.int .u32 0, .int .i64 0]), (239, .int .i64 a0.Op), (245, .int .i64 a0.T), (248, .int .i64 a0.A), (252, .int .i64 (wrap64 (Int.tdiv a0.Imm 4)))] (fun _ => (po_then (po_x po_body))) rfl rfl (by kernel_rfl) fun σ => ?_
   obtain ⟨r_517, hx_516, H⟩ := bindSome H
   obtain ⟨r_530, hx_529, H⟩ := bindSome H
   obtain ⟨r_543, hx_542, H⟩ := bindSome H
   obtain ⟨r_556, hx_555, H⟩ := bindSome H
   obtain ⟨r_569, hx_568, H⟩ := bindSome H
   obtain ⟨r_582, hx_581, H⟩ := bindSome H
   refine seenW [(10, .pointer (some ⟨b_81, 0, none⟩)), (237, .agg #[.int .u32 0, .int .i64 0]), (239, .int .i64 a0.Op), (245, .int .i64 a0.T), (248, .int .i64 a0.A), (252, .int .i64 (wrap64 (Int.tdiv a0.Imm 4)))] ⟨rfl, rfl, rfl, rfl, rfl, rfl, trivial⟩ ?_
   refine w_par (m' := 262143) (fun fl_ gb_ gx_ w_ => Hp (On []) no w w w_ [[(b_1, .cells #[.int .i64 a0.Op, .int .i64 a0.T, .int .i64 a0.A, .int .i64 a0.B, .int .i64 a0.Imm] 44 (0, 0))], [(b_81, .cells #[.int .u32 0, .int .i64 0] 103 (0, 0))], bif fl_ 3 then gx_ 3 else [], bif fl_ 4 then gx_ 4 else []]) [⟨3, some 240, fun b X v => ∃ A_ c_, v = .slice A_ ([10, 11] : List Int).length c_ ∧ Own (intE .i64) no wz 3 A_ c_ ([10, 11] : List Int) X⟩, ⟨4, some 241, fun b X v => ∃ A_ c_, v = .slice A_ ([58, 62] : List Int).length c_ ∧ Own (intE .i64) no wz 3 A_ c_ ([58, 62] : List Int) X⟩, ⟨5, some 242, fun b X v => v = .int .i64 r_517⟩, ⟨6, some 243, fun b X v => v = .agg #[.int .u32 r_530.w, .int .i64 r_530.bits]⟩, ⟨9, some 246, fun b X v => v = .agg #[.int .u32 r_543.w, .int .i64 r_543.bits]⟩, ⟨12, some 249, fun b X v => v = .agg #[.int .u32 r_556.w, .int .i64 r_556.bits]⟩, ⟨16, some 253, fun b X v => v = .agg #[.int .u32 r_569.w, .int .i64 r_569.bits]⟩, ⟨17, some 254, fun b X v => v = .agg #[.int .u32 r_582.w, .int .i64 r_582.bits]⟩] ?_ [3, 4, 5, 6, 9, 12, 16, 17] rfl 8 rfl (by kernel_rfl) rfl (by kernel_rfl) (by kernel_rfl) (by kernel_rfl) (by kernel_rfl) (by kernel_rfl) (Hp.cong (hp_477.pick [0, 1, 2, 3] (by decide) rfl) (by kernel_rfl)) ?_ ?_
   ·intro i hi_ fl_ gb_ gx_ w_ hf_ hj_
    simp only [List.map_cons, List.map_nil, List.mem_cons, List.not_mem_nil, or_false] at hi_
    rcases hi_ with rfl | rfl | rfl | rfl | rfl | rfl | rfl | rfl
    ·exact Wp.of hj_ [0, 1] rfl
    ·exact Wp.of hj_ [0, 1] rfl
    ·exact Wp.of hj_ [0, 1] rfl
    ·exact Wp.of hj_ [0, 1] rfl
    ·exact Wp.of hj_ [0, 1] rfl
    ·exact Wp.of hj_ [0, 1] rfl
    ·exact Wp.of hj_ [0, 1] rfl
    ·exact Wp.of hj_ [0, 1] rfl
   ·refine .cons [] [] [] rfl rfl rfl (by kernel_rfl) (by kernel_rfl) (by kernel_rfl) ?_ ?_
    ·rintro σ_478 fl_ gb_ gx_ w_479 hj_480 f_481 - - -
     have hp_482 : Hp (On []) no w w w_479 [[(b_1, .cells #[.int .i64 a0.Op, .int .i64 a0.T, .int .i64 a0.A, .int .i64 a0.B, .int .i64 a0.Imm] 44 (0, 0))], [(b_81, .cells #[.int .u32 0, .int .i64 0] 103 (0, 0))], bif fl_ 3 then gx_ 3 else [], bif fl_ 4 then gx_ 4 else []] := hj_480
     refine s_buildC (zv := .int .i64 0) (E := (intE .i64)) (F := no) (wf := wz) (xs := ([10, 11] : List Int)) (cs := [.int .i64 10, .int .i64 11]) (vs := [(0, .int .i64 10), (1, .int .i64 11)]) hp_482 (.cons rfl (.cons rfl .nil)) Try.runUnderlying65 Try.sizeOf3 (by intro w_; kernel_rfl) rfl rfl rfl (Reps.cat.2 rfl) rfl rfl rfl rfl (fun A_483 c_484 w_485 X_486 hp_487 O_488 => ?_)
     refine k_nil ?_
     refine ⟨_, 0, X_486, rfl, ?_, ⟨_, _, rfl, O_488⟩⟩
     exact Hp.cong (hp_487.pick [0, 1, 4, 3] (by decide) rfl) (by kernel_rfl)
    refine .cons [] [] [] rfl rfl rfl (by kernel_rfl) (by kernel_rfl) (by kernel_rfl) ?_ ?_
    ·rintro σ_489 fl_ gb_ gx_ w_490 hj_491 f_492 - - -
     have hp_493 : Hp (On []) no w w w_490 [[(b_1, .cells #[.int .i64 a0.Op, .int .i64 a0.T, .int .i64 a0.A, .int .i64 a0.B, .int .i64 a0.Imm] 44 (0, 0))], [(b_81, .cells #[.int .u32 0, .int .i64 0] 103 (0, 0))], bif fl_ 3 then gx_ 3 else [], bif fl_ 4 then gx_ 4 else []] := hj_491
     refine s_buildC (zv := .int .i64 0) (E := (intE .i64)) (F := no) (wf := wz) (xs := ([58, 62] : List Int)) (cs := [.int .i64 58, .int .i64 62]) (vs := [(0, .int .i64 58), (1, .int .i64 62)]) hp_493 (.cons rfl (.cons rfl .nil)) Try.runUnderlying65 Try.sizeOf3 (by intro w_; kernel_rfl) rfl rfl rfl (Reps.cat.2 rfl) rfl rfl rfl rfl (fun A_494 c_495 w_496 X_497 hp_498 O_499 => ?_)
     refine k_nil ?_
     refine ⟨_, 0, X_497, rfl, ?_, ⟨_, _, rfl, O_499⟩⟩
     exact Hp.cong (hp_498.pick [0, 1, 2, 4] (by decide) rfl) (by kernel_rfl)
    refine .cons [3, 4] [3, 4] [] rfl rfl rfl (by kernel_rfl) (by kernel_rfl) (by kernel_rfl) ?_ ?_
    ·rintro σ_500 fl_ gb_ gx_ w_501 hj_502 f_503 ⟨t_504, t_505, -⟩ - ⟨⟨A_507, c_508, f_506, O_509⟩, ⟨A_511, c_512, f_510, O_513⟩, -⟩
     have hp_514 : Hp (On []) no w w w_501 [[(b_1, .cells #[.int .i64 a0.Op, .int .i64 a0.T, .int .i64 a0.A, .int .i64 a0.B, .int .i64 a0.Imm] 44 (0, 0))], [(b_81, .cells #[.int .u32 0, .int .i64 0] 103 (0, 0))], gx_ 3, gx_ 4] := Hp.cong (R := [[(b_1, .cells #[.int .i64 a0.Op, .int .i64 a0.T, .int .i64 a0.A, .int .i64 a0.B, .int .i64 a0.Imm] 44 (0, 0))], [(b_81, .cells #[.int .u32 0, .int .i64 0] 103 (0, 0))], bif fl_ 3 then gx_ 3 else [], bif fl_ 4 then gx_ 4 else []]) hj_502 (by simp only [t_504, t_505, cond_true, cond_false])
     refine s_call (.cons (tm rfl rfl) (.cons (tm rfl f_506) (.cons (tm rfl f_510) .nil))) Try.call47 (selvageref15_pick.calls a0.Op ([10, 11] : List Int) A_507 c_508 ([58, 62] : List Int) A_511 c_512 r_517 _ _ (Hp.offCov hp_514 [] [[(b_1, .cells #[.int .i64 a0.Op, .int .i64 a0.T, .int .i64 a0.A, .int .i64 a0.B, .int .i64 a0.Imm] 44 (0, 0))], [(b_81, .cells #[.int .u32 0, .int .i64 0] 103 (0, 0))], (gx_ 3), (gx_ 4)] rfl) (Own.pass (Own.any O_509) hp_514 (subRest [] [[(b_1, .cells #[.int .i64 a0.Op, .int .i64 a0.T, .int .i64 a0.A, .int .i64 a0.B, .int .i64 a0.Imm] 44 (0, 0))], [(b_81, .cells #[.int .u32 0, .int .i64 0] 103 (0, 0))], (gx_ 3), (gx_ 4)] rfl) (i := 2) rfl) (Own.pass (Own.any O_513) hp_514 (subRest [] [[(b_1, .cells #[.int .i64 a0.Op, .int .i64 a0.T, .int .i64 a0.A, .int .i64 a0.B, .int .i64 a0.Imm] 44 (0, 0))], [(b_81, .cells #[.int .u32 0, .int .i64 0] 103 (0, 0))], (gx_ 3), (gx_ 4)] rfl) (i := 3) rfl) hx_516) rfl ?_
     rintro v_ w_518 ⟨rfl, af_521⟩
     have hp_519 := Hp.callA af_521 hp_514
     refine k_nil ?_
     refine ⟨_, 0, [], rfl, ?_, rfl⟩
     exact Hp.cong (hp_519) (by first | (simp only [upd, updb, updx, t_504, t_505]; done) | (simp only [upd, updb, updx, t_504, t_505]; kernel_rfl) | kernel_rfl)
    refine .cons [5] [] [] rfl rfl rfl (by kernel_rfl) (by kernel_rfl) (by kernel_rfl) ?_ ?_
    ·rintro σ_522 fl_ gb_ gx_ w_523 hj_524 f_525 - - ⟨f_526, -⟩
     have hp_527 : Hp (On []) no w w w_523 [[(b_1, .cells #[.int .i64 a0.Op, .int .i64 a0.T, .int .i64 a0.A, .int .i64 a0.B, .int .i64 a0.Imm] 44 (0, 0))], [(b_81, .cells #[.int .u32 0, .int .i64 0] 103 (0, 0))], bif fl_ 3 then gx_ 3 else [], bif fl_ 4 then gx_ 4 else []] := hj_524
     refine s_call (.cons (tm rfl rfl) (.cons (tm rfl f_526) (.cons rfl .nil))) Try.call46 (selvageref15_word_put.calls (⟨0, 0⟩ : selvageref15_word) r_517 6 r_530 _ hx_529) rfl ?_
     rintro v_ w_531 ⟨rfl, af_534⟩
     have hp_532 := Hp.callA af_534 hp_527
     refine k_nil ?_
     refine ⟨_, 0, [], rfl, ?_, rfl⟩
     exact Hp.cong (hp_532) (by kernel_rfl)
    refine .cons [6] [] [] rfl rfl rfl (by kernel_rfl) (by kernel_rfl) (by kernel_rfl) ?_ ?_
    ·rintro σ_535 fl_ gb_ gx_ w_536 hj_537 f_538 - - ⟨f_539, -⟩
     have hp_540 : Hp (On []) no w w w_536 [[(b_1, .cells #[.int .i64 a0.Op, .int .i64 a0.T, .int .i64 a0.A, .int .i64 a0.B, .int .i64 a0.Imm] 44 (0, 0))], [(b_81, .cells #[.int .u32 0, .int .i64 0] 103 (0, 0))], bif fl_ 3 then gx_ 3 else [], bif fl_ 4 then gx_ 4 else []] := hj_537
     refine s_call (.cons (tm rfl f_539) (.cons (tm rfl rfl) (.cons rfl .nil))) Try.call46 (selvageref15_word_put.calls r_530 a0.T 5 r_543 _ hx_542) rfl ?_
     rintro v_ w_544 ⟨rfl, af_547⟩
     have hp_545 := Hp.callA af_547 hp_540
     refine k_nil ?_
     refine ⟨_, 0, [], rfl, ?_, rfl⟩
     exact Hp.cong (hp_545) (by kernel_rfl)
    refine .cons [9] [] [] rfl rfl rfl (by kernel_rfl) (by kernel_rfl) (by kernel_rfl) ?_ ?_
    ·rintro σ_548 fl_ gb_ gx_ w_549 hj_550 f_551 - - ⟨f_552, -⟩
     have hp_553 : Hp (On []) no w w w_549 [[(b_1, .cells #[.int .i64 a0.Op, .int .i64 a0.T, .int .i64 a0.A, .int .i64 a0.B, .int .i64 a0.Imm] 44 (0, 0))], [(b_81, .cells #[.int .u32 0, .int .i64 0] 103 (0, 0))], bif fl_ 3 then gx_ 3 else [], bif fl_ 4 then gx_ 4 else []] := hj_550
     refine s_call (.cons (tm rfl f_552) (.cons (tm rfl rfl) (.cons rfl .nil))) Try.call46 (selvageref15_word_put.calls r_543 a0.A 5 r_556 _ hx_555) rfl ?_
     rintro v_ w_557 ⟨rfl, af_560⟩
     have hp_558 := Hp.callA af_560 hp_553
     refine k_nil ?_
     refine ⟨_, 0, [], rfl, ?_, rfl⟩
     exact Hp.cong (hp_558) (by kernel_rfl)
    refine .cons [12] [] [] rfl rfl rfl (by kernel_rfl) (by kernel_rfl) (by kernel_rfl) ?_ ?_
    ·rintro σ_561 fl_ gb_ gx_ w_562 hj_563 f_564 - - ⟨f_565, -⟩
     have hp_566 : Hp (On []) no w w w_562 [[(b_1, .cells #[.int .i64 a0.Op, .int .i64 a0.T, .int .i64 a0.A, .int .i64 a0.B, .int .i64 a0.Imm] 44 (0, 0))], [(b_81, .cells #[.int .u32 0, .int .i64 0] 103 (0, 0))], bif fl_ 3 then gx_ 3 else [], bif fl_ 4 then gx_ 4 else []] := hj_563
     refine s_call (.cons (tm rfl f_565) (.cons (tm rfl rfl) (.cons rfl .nil))) Try.call46 (selvageref15_word_put.calls r_556 (wrap64 (Int.tdiv a0.Imm 4)) 14 r_569 _ hx_568) rfl ?_
     rintro v_ w_570 ⟨rfl, af_573⟩
     have hp_571 := Hp.callA af_573 hp_566
     refine k_nil ?_
     refine ⟨_, 0, [], rfl, ?_, rfl⟩
     exact Hp.cong (hp_571) (by kernel_rfl)
    refine .cons [16] [] [] rfl rfl rfl (by kernel_rfl) (by kernel_rfl) (by kernel_rfl) ?_ ?_
    ·rintro σ_574 fl_ gb_ gx_ w_575 hj_576 f_577 - - ⟨f_578, -⟩
     have hp_579 : Hp (On []) no w w w_575 [[(b_1, .cells #[.int .i64 a0.Op, .int .i64 a0.T, .int .i64 a0.A, .int .i64 a0.B, .int .i64 a0.Imm] 44 (0, 0))], [(b_81, .cells #[.int .u32 0, .int .i64 0] 103 (0, 0))], bif fl_ 3 then gx_ 3 else [], bif fl_ 4 then gx_ 4 else []] := hj_576
     refine s_call (.cons (tm rfl f_578) (.cons rfl (.cons rfl .nil))) Try.call46 (selvageref15_word_put.calls r_569 0 2 r_582 _ hx_581) rfl ?_
     rintro v_ w_583 ⟨rfl, af_586⟩
     have hp_584 := Hp.callA af_586 hp_579
     refine k_nil ?_
     refine ⟨_, 0, [], rfl, ?_, rfl⟩
     exact Hp.cong (hp_584) (by kernel_rfl)
    exact .nil
   rintro σ_587 gb_591 gx_592 w_588 hj_589 ⟨⟨A_596, c_597, f_595, O_598⟩, ⟨A_600, c_601, f_599, O_602⟩, f_603, f_604, f_605, f_606, f_607, f_608, -⟩
   have hp_590 := Hp.cong (R' := [[(b_1, .cells #[.int .i64 a0.Op, .int .i64 a0.T, .int .i64 a0.A, .int .i64 a0.B, .int .i64 a0.Imm] 44 (0, 0))], [(b_81, .cells #[.int .u32 0, .int .i64 0] 103 (0, 0))], gx_592 3, gx_592 4]) hj_589 (by kernel_rfl)
   refine seenW [(240, .slice A_596 ([10, 11] : List Int).length c_597), (241, .slice A_600 ([58, 62] : List Int).length c_601), (242, .int .i64 r_517), (243, .agg #[.int .u32 r_530.w, .int .i64 r_530.bits]), (246, .agg #[.int .u32 r_543.w, .int .i64 r_543.bits]), (249, .agg #[.int .u32 r_556.w, .int .i64 r_556.bits]), (253, .agg #[.int .u32 r_569.w, .int .i64 r_569.bits]), (254, .agg #[.int .u32 r_582.w, .int .i64 r_582.bits]), (10, .pointer (some ⟨b_81, 0, none⟩)), (237, .agg #[.int .u32 0, .int .i64 0]), (239, .int .i64 a0.Op), (245, .int .i64 a0.T), (248, .int .i64 a0.A), (252, .int .i64 (wrap64 (Int.tdiv a0.Imm 4)))] ?_ ?_
   ·exact ⟨f_595, f_599, f_603, f_604, f_605, f_606, f_607, f_608, rfl, rfl, rfl, rfl, rfl, rfl, trivial⟩
   refine w_one (m' := 524287) 18 rfl (by kernel_rfl) (by kernel_rfl) ?_
   refine s_store (i := 1) (j := 0) (vs := [.int .u32 r_582.w, .int .i64 r_582.bits]) (l' := [.int .u32 r_582.w, .int .i64 r_582.bits]) hp_590 (tm rfl rfl) (tm rfl rfl) rfl Try.sizeOf103 rfl rfl rfl rfl rfl rfl (fun w_609 hp_610 => ?_)
   refine k_nil ?_
   refine ⟨(Wp.of hp_610 [0] rfl), ?_⟩
   refine w_done (by kernel_rfl) ?_
   obtain rfl := Option.some.inj H
   exact ⟨(r_582.w, r_582.bits), _, rfl, seenF ⟨rfl, trivial⟩, hp_610.pick [1] (by decide) rfl⟩
  have H := iff_ h_475 H
  refine kq tb hp_85 [] [(255, .bool (decide (r_6 = 6)))] (by kernel_rfl) fun σ => ?_
  refine k_if (tm rfl rfl) (fun h_611 => ?_) (fun h_611 => ?_)
  ·as_aux_lemma =>
   have H := ift h_611 H
   refine k_anyF [[0, 1], [0, 1], [0, 1], [0, 1], [0, 1], [0, 1], [0, 1], [0, 1], [0, 1], [0, 1], [0]] [0, 1, 3, 0, 8, 31, 0, 64, 255, 511, 1023] mixed hp_85 11 (by kernel_rfl) (fun w_612 hp_613 => ?_)
   refine w_takes (f := 6) tb [0, 1] (Wp.of hp_613 [0, 1] rfl) [] [] [] [(1, 0, 0), (10, 1, 0)] [] [3, 6, 0, 4, 7] 217 [(257, .agg #[.int .u32 0, .int .i64 0]), (261, .int .i64 a0.A), (264, .int .i64 a0.B)] (fun _ => (po_then (po_x po_body))) rfl rfl (by kernel_rfl) fun σ => ?_
   refine w_one (m' := 219) 1 rfl (by kernel_rfl) (by kernel_rfl) ?_
   obtain ⟨r_616, hx_615, H⟩ := bindSome H
   refine s_call (.cons (tm rfl rfl) (.cons rfl (.cons rfl .nil))) Try.call46 (selvageref15_word_put.calls (⟨0, 0⟩ : selvageref15_word) 31 6 r_616 _ hx_615) rfl ?_
   rintro v_ w_617 ⟨rfl, af_620⟩
   have hp_618 := Hp.callA af_620 hp_613
   refine k_nil ?_
   refine ⟨(Wp.of hp_618 [0, 1] rfl), ?_⟩
   refine w_one (m' := 223) 2 rfl (by kernel_rfl) (by kernel_rfl) ?_
   obtain ⟨r_623, hx_622, H⟩ := bindSome H
   refine s_call (.cons (tm rfl rfl) (.cons rfl (.cons rfl .nil))) Try.call46 (selvageref15_word_put.calls r_616 1 5 r_623 _ hx_622) rfl ?_
   rintro v_ w_624 ⟨rfl, af_627⟩
   have hp_625 := Hp.callA af_627 hp_618
   refine k_nil ?_
   refine ⟨(Wp.of hp_625 [0, 1] rfl), ?_⟩
   refine w_one (m' := 255) 5 rfl (by kernel_rfl) (by kernel_rfl) ?_
   obtain ⟨r_630, hx_629, H⟩ := bindSome H
   refine s_call (.cons (tm rfl rfl) (.cons (tm rfl rfl) (.cons rfl .nil))) Try.call46 (selvageref15_word_put.calls r_623 a0.A 5 r_630 _ hx_629) rfl ?_
   rintro v_ w_631 ⟨rfl, af_634⟩
   have hp_632 := Hp.callA af_634 hp_625
   refine k_nil ?_
   refine ⟨(Wp.of hp_632 [0, 1] rfl), ?_⟩
   refine w_one (m' := 511) 8 rfl (by kernel_rfl) (by kernel_rfl) ?_
   obtain ⟨r_637, hx_636, H⟩ := bindSome H
   refine s_call (.cons (tm rfl rfl) (.cons (tm rfl rfl) (.cons rfl .nil))) Try.call46 (selvageref15_word_put.calls r_630 a0.B 5 r_637 _ hx_636) rfl ?_
   rintro v_ w_638 ⟨rfl, af_641⟩
   have hp_639 := Hp.callA af_641 hp_632
   refine k_nil ?_
   refine ⟨(Wp.of hp_639 [0, 1] rfl), ?_⟩
   refine w_one (m' := 1023) 9 rfl (by kernel_rfl) (by kernel_rfl) ?_
   obtain ⟨r_644, hx_643, H⟩ := bindSome H
   refine s_call (.cons (tm rfl rfl) (.cons rfl (.cons rfl .nil))) Try.call46 (selvageref15_word_put.calls r_637 0 11 r_644 _ hx_643) rfl ?_
   rintro v_ w_645 ⟨rfl, af_648⟩
   have hp_646 := Hp.callA af_648 hp_639
   refine k_nil ?_
   refine ⟨(Wp.of hp_646 [0, 1] rfl), ?_⟩
   refine w_one (m' := 2047) 10 rfl (by kernel_rfl) (by kernel_rfl) ?_
   refine s_store (i := 1) (j := 0) (vs := [.int .u32 r_644.w, .int .i64 r_644.bits]) (l' := [.int .u32 r_644.w, .int .i64 r_644.bits]) hp_646 (tm rfl rfl) (tm rfl rfl) rfl Try.sizeOf103 rfl rfl rfl rfl rfl rfl (fun w_649 hp_650 => ?_)
   refine k_nil ?_
   refine ⟨(Wp.of hp_650 [0] rfl), ?_⟩
   refine w_done (by kernel_rfl) ?_
   obtain rfl := Option.some.inj H
   exact ⟨(r_644.w, r_644.bits), _, rfl, seenF ⟨rfl, trivial⟩, hp_650.pick [1] (by decide) rfl⟩
  have H := iff_ h_611 H
  refine kq tb hp_85 [] [(267, .bool (decide (r_6 = 7)))] (by kernel_rfl) fun σ => ?_
  refine k_if (tm rfl rfl) (fun h_651 => ?_) (fun h_651 => ?_)
  ·as_aux_lemma =>
   have H := ift h_651 H
   refine k_anyF [[0, 1], [0, 1], [0, 1], [0, 1], [0, 1], [0, 1], [0, 1], [0, 1], [0, 1], [0]] [0, 1, 3, 0, 8, 31, 0, 64, 255, 511] mixed hp_85 10 (by kernel_rfl) (fun w_652 hp_653 => ?_)
   refine w_takes (f := 5) tb [0, 1] (Wp.of hp_653 [0, 1] rfl) [] [] [] [(1, 0, 0), (10, 1, 0)] [] [3, 6, 0, 4, 7] 217 [(269, .agg #[.int .u32 0, .int .i64 0]), (273, .int .i64 a0.A), (276, .int .i64 a0.Imm)] (fun _ => (po_then (po_x po_body))) rfl rfl (by kernel_rfl) fun σ => ?_
   refine w_one (m' := 219) 1 rfl (by kernel_rfl) (by kernel_rfl) ?_
   obtain ⟨r_656, hx_655, H⟩ := bindSome H
   refine s_call (.cons (tm rfl rfl) (.cons rfl (.cons rfl .nil))) Try.call46 (selvageref15_word_put.calls (⟨0, 0⟩ : selvageref15_word) 11 6 r_656 _ hx_655) rfl ?_
   rintro v_ w_657 ⟨rfl, af_660⟩
   have hp_658 := Hp.callA af_660 hp_653
   refine k_nil ?_
   refine ⟨(Wp.of hp_658 [0, 1] rfl), ?_⟩
   refine w_one (m' := 223) 2 rfl (by kernel_rfl) (by kernel_rfl) ?_
   obtain ⟨r_663, hx_662, H⟩ := bindSome H
   refine s_call (.cons (tm rfl rfl) (.cons rfl (.cons rfl .nil))) Try.call46 (selvageref15_word_put.calls r_656 1 5 r_663 _ hx_662) rfl ?_
   rintro v_ w_664 ⟨rfl, af_667⟩
   have hp_665 := Hp.callA af_667 hp_658
   refine k_nil ?_
   refine ⟨(Wp.of hp_665 [0, 1] rfl), ?_⟩
   refine w_one (m' := 255) 5 rfl (by kernel_rfl) (by kernel_rfl) ?_
   obtain ⟨r_670, hx_669, H⟩ := bindSome H
   refine s_call (.cons (tm rfl rfl) (.cons (tm rfl rfl) (.cons rfl .nil))) Try.call46 (selvageref15_word_put.calls r_663 a0.A 5 r_670 _ hx_669) rfl ?_
   rintro v_ w_671 ⟨rfl, af_674⟩
   have hp_672 := Hp.callA af_674 hp_665
   refine k_nil ?_
   refine ⟨(Wp.of hp_672 [0, 1] rfl), ?_⟩
   refine w_one (m' := 511) 8 rfl (by kernel_rfl) (by kernel_rfl) ?_
   obtain ⟨r_677, hx_676, H⟩ := bindSome H
   refine s_call (.cons (tm rfl rfl) (.cons (tm rfl rfl) (.cons rfl .nil))) Try.call46 (selvageref15_word_put.calls r_670 a0.Imm 16 r_677 _ hx_676) rfl ?_
   rintro v_ w_678 ⟨rfl, af_681⟩
   have hp_679 := Hp.callA af_681 hp_672
   refine k_nil ?_
   refine ⟨(Wp.of hp_679 [0, 1] rfl), ?_⟩
   refine w_one (m' := 1023) 9 rfl (by kernel_rfl) (by kernel_rfl) ?_
   refine s_store (i := 1) (j := 0) (vs := [.int .u32 r_677.w, .int .i64 r_677.bits]) (l' := [.int .u32 r_677.w, .int .i64 r_677.bits]) hp_679 (tm rfl rfl) (tm rfl rfl) rfl Try.sizeOf103 rfl rfl rfl rfl rfl rfl (fun w_682 hp_683 => ?_)
   refine k_nil ?_
   refine ⟨(Wp.of hp_683 [0] rfl), ?_⟩
   refine w_done (by kernel_rfl) ?_
   obtain rfl := Option.some.inj H
   exact ⟨(r_677.w, r_677.bits), _, rfl, seenF ⟨rfl, trivial⟩, hp_683.pick [1] (by decide) rfl⟩
  have H := iff_ h_651 H
  refine kq tb hp_85 [] [(278, .bool (decide (r_6 = 8)))] (by kernel_rfl) fun σ => ?_
  refine k_if (tm rfl rfl) (fun h_684 => ?_) (fun h_684 => ?_)
  ·as_aux_lemma =>
   have H := ift h_684 H
   refine k_anyF [[0, 1], [0, 1], [0, 1], [0, 1], [0, 1], [0, 1], [0, 1], [0, 1], [0, 1], [0, 1], [0, 1], [0, 1], [0, 1], [0, 1], [0, 1], [0, 1], [0, 1], [0]] [0, 1, 0, 0, 8, 28, 63, 0, 0, 256, 896, 2047, 0, 4096, 12288, 32767, 65535, 131071] mixed hp_85 18 (by kernel_rfl) (fun w_685 hp_686 => ?_)
   refine w_take (m' := 4) (v := .agg #[.int .i64 12, .int .i64 4, .int .i64 12, .int .i64 4]) 2 rfl rfl (by kernel_rfl) (by kernel_rfl) (by kernel_rfl) (by kernel_rfl) (by kernel_rfl) (by kernel_rfl) (by kernel_rfl) (po_then (po_x po_body)) (Wp.of hp_686 [0, 1] rfl) (y_val (fun w_ hW_ => e_build (vs := [(0, .int .i64 12), (1, .int .i64 4), (2, .int .i64 12), (3, .int .i64 4)]) (cs := [.int .i64 12, .int .i64 4, .int .i64 12, .int .i64 4]) (.cons rfl (.cons rfl (.cons rfl (.cons rfl .nil)))) (by kernel_rfl))) ?_
   refine w_take (m' := 12) (v := .pointer (some ⟨b_1, 1, none⟩)) 3 rfl rfl (by kernel_rfl) (by kernel_rfl) (by kernel_rfl) (by kernel_rfl) (by kernel_rfl) (by kernel_rfl) (by kernel_rfl) (po_then (po_x po_body)) (Wp.of hp_686 [0, 1] rfl) (y_val (fun w_ hW_ => e_fieldAddr (tm rfl rfl) Try.runUnderlying44 rfl Try.sizeOf3 rfl rfl)) ?_
   refine w_take (m' := 140) (v := .agg #[.int .i64 0, .int .i64 0, .int .i64 2, .int .i64 2]) 7 rfl rfl (by kernel_rfl) (by kernel_rfl) (by kernel_rfl) (by kernel_rfl) (by kernel_rfl) (by kernel_rfl) (by kernel_rfl) (po_then (po_x po_body)) (Wp.of hp_686 [0, 1] rfl) (y_val (fun w_ hW_ => e_build (vs := [(0, .int .i64 0), (1, .int .i64 0), (2, .int .i64 2), (3, .int .i64 2)]) (cs := [.int .i64 0, .int .i64 0, .int .i64 2, .int .i64 2]) (.cons rfl (.cons rfl (.cons rfl (.cons rfl .nil)))) (by kernel_rfl))) ?_
   refine w_takes (f := 11) tb [0, 1] (Wp.of hp_686 [0, 1] rfl) [] [] [] [(1, 0, 0), (10, 1, 0), (283, 0, 1)] [] [8, 12, 0, 4] 4509 [(288, .pointer (some ⟨b_1, 1, none⟩)), (292, .pointer (some ⟨b_1, 4, none⟩)), (280, .agg #[.int .u32 0, .int .i64 0]), (284, .int .i64 a0.T)] (fun _ => (po_then (po_x po_body))) rfl rfl (by kernel_rfl) fun σ => ?_
   obtain ⟨g_687, H⟩ := grd H
   refine w_take (m' := 4541) (v := .int .i64 (gi ([12, 4, 12, 4] : List Int) a0.T)) 5 rfl rfl (by kernel_rfl) (by kernel_rfl) (by kernel_rfl) (by kernel_rfl) (by kernel_rfl) (by kernel_rfl) (by kernel_rfl) (po_then (po_x po_body)) (Wp.of hp_686 [0, 1] rfl) (y_val (fun w_ hW_ => e_index (f := (mI .i64)) (xs := ([12, 4, 12, 4] : List Int)) (tm rfl rfl) (tm rfl rfl) Try.runUnderlying106 Try.isAgg3 Try.sizeOf3 rfl g_687 rfl)) ?_
   refine w_take (m' := 5053) (v := .int .i64 a0.T) 9 rfl rfl (by kernel_rfl) (by kernel_rfl) (by kernel_rfl) (by kernel_rfl) (by kernel_rfl) (by kernel_rfl) (by kernel_rfl) (po_then (po_x po_body)) (Wp.of hp_686 [0, 1] rfl) (y_val (fun w_ hW_ => e_load1 (tm rfl rfl) Try.isAgg3 (cell_atL (hW_.get (i := 0) (j := 0) rfl rfl) rfl))) ?_
   refine w_take (m' := 6077) (v := .int .i64 (gi ([0, 0, 2, 2] : List Int) a0.T)) 10 rfl rfl (by kernel_rfl) (by kernel_rfl) (by kernel_rfl) (by kernel_rfl) (by kernel_rfl) (by kernel_rfl) (by kernel_rfl) (po_then (po_x po_body)) (Wp.of hp_686 [0, 1] rfl) (y_val (fun w_ hW_ => e_index (f := (mI .i64)) (xs := ([0, 0, 2, 2] : List Int)) (tm rfl rfl) (tm rfl rfl) Try.runUnderlying106 Try.isAgg3 Try.sizeOf3 rfl g_687 rfl)) ?_
   refine w_takes (f := 6) tb [0, 1] (Wp.of hp_686 [0, 1] rfl) [] [] [] [(292, 0, 4)] [] [13, 14] 30653 [(294, .int .i64 (wrap64 (Int.tdiv a0.Imm 4)))] (fun _ => (po_then (po_x po_body))) rfl rfl (by kernel_rfl) fun σ => ?_
   refine w_one (m' := 30655) 1 rfl (by kernel_rfl) (by kernel_rfl) ?_
   obtain ⟨r_690, hx_689, H⟩ := bindSome H
   refine s_call (.cons (tm rfl rfl) (.cons rfl (.cons rfl .nil))) Try.call46 (selvageref15_word_put.calls (⟨0, 0⟩ : selvageref15_word) 16 6 r_690 _ hx_689) rfl ?_
   rintro v_ w_691 ⟨rfl, af_694⟩
   have hp_692 := Hp.callA af_694 hp_686
   refine k_nil ?_
   refine ⟨(Wp.of hp_692 [0, 1] rfl), ?_⟩
   refine w_one (m' := 30719) 6 rfl (by kernel_rfl) (by kernel_rfl) ?_
   obtain ⟨r_697, hx_696, H⟩ := bindSome H
   refine s_call (.cons (tm rfl rfl) (.cons (tm rfl rfl) (.cons rfl .nil))) Try.call46 (selvageref15_word_put.calls r_690 (gi ([12, 4, 12, 4] : List Int) a0.T) 5 r_697 _ hx_696) rfl ?_
   rintro v_ w_698 ⟨rfl, af_701⟩
   have hp_699 := Hp.callA af_701 hp_692
   refine k_nil ?_
   refine ⟨(Wp.of hp_699 [0, 1] rfl), ?_⟩
   refine w_one (m' := 32767) 11 rfl (by kernel_rfl) (by kernel_rfl) ?_
   obtain ⟨r_704, hx_703, H⟩ := bindSome H
   refine s_call (.cons (tm rfl rfl) (.cons (tm rfl rfl) (.cons rfl .nil))) Try.call46 (selvageref15_word_put.calls r_697 (gi ([0, 0, 2, 2] : List Int) a0.T) 5 r_704 _ hx_703) rfl ?_
   rintro v_ w_705 ⟨rfl, af_708⟩
   have hp_706 := Hp.callA af_708 hp_699
   refine k_nil ?_
   refine ⟨(Wp.of hp_706 [0, 1] rfl), ?_⟩
   refine w_one (m' := 65535) 15 rfl (by kernel_rfl) (by kernel_rfl) ?_
   obtain ⟨r_711, hx_710, H⟩ := bindSome H
   refine s_call (.cons (tm rfl rfl) (.cons (tm rfl rfl) (.cons rfl .nil))) Try.call46 (selvageref15_word_put.calls r_704 (wrap64 (Int.tdiv a0.Imm 4)) 14 r_711 _ hx_710) rfl ?_
   rintro v_ w_712 ⟨rfl, af_715⟩
   have hp_713 := Hp.callA af_715 hp_706
   refine k_nil ?_
   refine ⟨(Wp.of hp_713 [0, 1] rfl), ?_⟩
   refine w_one (m' := 131071) 16 rfl (by kernel_rfl) (by kernel_rfl) ?_
   obtain ⟨r_718, hx_717, H⟩ := bindSome H
   refine s_call (.cons (tm rfl rfl) (.cons rfl (.cons rfl .nil))) Try.call46 (selvageref15_word_put.calls r_711 0 2 r_718 _ hx_717) rfl ?_
   rintro v_ w_719 ⟨rfl, af_722⟩
   have hp_720 := Hp.callA af_722 hp_713
   refine k_nil ?_
   refine ⟨(Wp.of hp_720 [0, 1] rfl), ?_⟩
   refine w_one (m' := 262143) 17 rfl (by kernel_rfl) (by kernel_rfl) ?_
   refine s_store (i := 1) (j := 0) (vs := [.int .u32 r_718.w, .int .i64 r_718.bits]) (l' := [.int .u32 r_718.w, .int .i64 r_718.bits]) hp_720 (tm rfl rfl) (tm rfl rfl) rfl Try.sizeOf103 rfl rfl rfl rfl rfl rfl (fun w_723 hp_724 => ?_)
   refine k_nil ?_
   refine ⟨(Wp.of hp_724 [0] rfl), ?_⟩
   refine w_done (by kernel_rfl) ?_
   obtain rfl := Option.some.inj H
   exact ⟨(r_718.w, r_718.bits), _, rfl, seenF ⟨rfl, trivial⟩, hp_724.pick [1] (by decide) rfl⟩
  have H := iff_ h_684 H
  refine kq tb hp_85 [] [(297, .bool (decide (r_6 = 9)))] (by kernel_rfl) fun σ => ?_
  refine k_if (tm rfl rfl) (fun h_725 => ?_) (fun h_725 => ?_)
  ·as_aux_lemma =>
   have H := ift h_725 H
   refine k_anyF [[0, 1], [0, 1], [0, 1], [0, 1], [0, 1], [0, 1], [0, 1], [0]] [0, 1, 0, 4, 12, 31, 63, 127] mixed hp_85 8 (by kernel_rfl) (fun w_726 hp_727 => ?_)
   refine w_takes (f := 4) tb [0, 1] (Wp.of hp_727 [0, 1] rfl) [] [] [] [(1, 0, 0), (10, 1, 0)] [] [2, 0, 3, 4] 29 [(299, .agg #[.int .u32 0, .int .i64 0]), (303, .int .i64 (wrap64 (Int.tdiv a0.Imm 4)))] (fun _ => (po_then (po_x po_body))) rfl rfl (by kernel_rfl) fun σ => ?_
   refine w_one (m' := 31) 1 rfl (by kernel_rfl) (by kernel_rfl) ?_
   obtain ⟨r_730, hx_729, H⟩ := bindSome H
   refine s_call (.cons (tm rfl rfl) (.cons rfl (.cons rfl .nil))) Try.call46 (selvageref15_word_put.calls (⟨0, 0⟩ : selvageref15_word) 18 6 r_730 _ hx_729) rfl ?_
   rintro v_ w_731 ⟨rfl, af_734⟩
   have hp_732 := Hp.callA af_734 hp_727
   refine k_nil ?_
   refine ⟨(Wp.of hp_732 [0, 1] rfl), ?_⟩
   refine w_one (m' := 63) 5 rfl (by kernel_rfl) (by kernel_rfl) ?_
   obtain ⟨r_737, hx_736, H⟩ := bindSome H
   refine s_call (.cons (tm rfl rfl) (.cons (tm rfl rfl) (.cons rfl .nil))) Try.call46 (selvageref15_word_put.calls r_730 (wrap64 (Int.tdiv a0.Imm 4)) 24 r_737 _ hx_736) rfl ?_
   rintro v_ w_738 ⟨rfl, af_741⟩
   have hp_739 := Hp.callA af_741 hp_732
   refine k_nil ?_
   refine ⟨(Wp.of hp_739 [0, 1] rfl), ?_⟩
   refine w_one (m' := 127) 6 rfl (by kernel_rfl) (by kernel_rfl) ?_
   obtain ⟨r_744, hx_743, H⟩ := bindSome H
   refine s_call (.cons (tm rfl rfl) (.cons rfl (.cons rfl .nil))) Try.call46 (selvageref15_word_put.calls r_737 0 2 r_744 _ hx_743) rfl ?_
   rintro v_ w_745 ⟨rfl, af_748⟩
   have hp_746 := Hp.callA af_748 hp_739
   refine k_nil ?_
   refine ⟨(Wp.of hp_746 [0, 1] rfl), ?_⟩
   refine w_one (m' := 255) 7 rfl (by kernel_rfl) (by kernel_rfl) ?_
   refine s_store (i := 1) (j := 0) (vs := [.int .u32 r_744.w, .int .i64 r_744.bits]) (l' := [.int .u32 r_744.w, .int .i64 r_744.bits]) hp_746 (tm rfl rfl) (tm rfl rfl) rfl Try.sizeOf103 rfl rfl rfl rfl rfl rfl (fun w_749 hp_750 => ?_)
   refine k_nil ?_
   refine ⟨(Wp.of hp_750 [0] rfl), ?_⟩
   refine w_done (by kernel_rfl) ?_
   obtain rfl := Option.some.inj H
   exact ⟨(r_744.w, r_744.bits), _, rfl, seenF ⟨rfl, trivial⟩, hp_750.pick [1] (by decide) rfl⟩
  have H := iff_ h_725 H
  refine k_seq ?_
  refine k_anyF [[0, 1], [0, 1], [0, 1], [0, 1], [0, 1], [0, 1], [0, 1], [0]] [0, 0, 2, 0, 0, 30, 63, 127] mixed hp_85 8 (by kernel_rfl) (fun w_751 hp_752 => ?_)
  refine w_takes (f := 5) tb [0, 1] (Wp.of hp_752 [0, 1] rfl) [] [] [] [(1, 0, 0), (10, 1, 0)] [] [1, 0, 2] 7 [(118, .agg #[.int .u32 0, .int .i64 0]), (120, .int .i64 a0.Op)] (fun _ => (po_then (po_x po_body))) rfl rfl (by kernel_rfl) fun σ => ?_
  obtain ⟨r_792, hx_791, H⟩ := bindSome H
  obtain ⟨r_805, hx_804, H⟩ := bindSome H
  refine seenW [(1, .pointer (some ⟨b_1, 0, none⟩)), (10, .pointer (some ⟨b_81, 0, none⟩)), (118, .agg #[.int .u32 0, .int .i64 0]), (120, .int .i64 a0.Op)] ⟨rfl, rfl, rfl, rfl, trivial⟩ ?_
  refine w_par (m' := 127) (fun fl_ gb_ gx_ w_ => Hp (On []) no w w w_ [[(b_1, .cells #[.int .i64 a0.Op, .int .i64 a0.T, .int .i64 a0.A, .int .i64 a0.B, .int .i64 a0.Imm] 44 (0, 0))], [(b_81, .cells #[.int .u32 0, .int .i64 0] 103 (0, 0))], bif fl_ 3 then gx_ 3 else [], bif fl_ 4 then gx_ 4 else []]) [⟨3, some 121, fun b X v => ∃ A_ c_, v = .slice A_ ([20, 21, 22, 23] : List Int).length c_ ∧ Own (intE .i64) no wz 3 A_ c_ ([20, 21, 22, 23] : List Int) X⟩, ⟨4, some 122, fun b X v => ∃ A_ c_, v = .slice A_ ([31, 31, 19, 17] : List Int).length c_ ∧ Own (intE .i64) no wz 3 A_ c_ ([31, 31, 19, 17] : List Int) X⟩, ⟨5, some 123, fun b X v => v = .int .i64 r_792⟩, ⟨6, some 124, fun b X v => v = .agg #[.int .u32 r_805.w, .int .i64 r_805.bits]⟩] ?_ [3, 4, 5, 6] rfl 4 rfl (by kernel_rfl) rfl (by kernel_rfl) (by kernel_rfl) (by kernel_rfl) (by kernel_rfl) (by kernel_rfl) (Hp.cong (hp_752.pick [0, 1, 2, 3] (by decide) rfl) (by kernel_rfl)) ?_ ?_
  ·intro i hi_ fl_ gb_ gx_ w_ hf_ hj_
   simp only [List.map_cons, List.map_nil, List.mem_cons, List.not_mem_nil, or_false] at hi_
   rcases hi_ with rfl | rfl | rfl | rfl
   ·exact Wp.of hj_ [0, 1] rfl
   ·exact Wp.of hj_ [0, 1] rfl
   ·exact Wp.of hj_ [0, 1] rfl
   ·exact Wp.of hj_ [0, 1] rfl
  ·refine .cons [] [] [] rfl rfl rfl (by kernel_rfl) (by kernel_rfl) (by kernel_rfl) ?_ ?_
   ·rintro σ_753 fl_ gb_ gx_ w_754 hj_755 f_756 - - -
    have hp_757 : Hp (On []) no w w w_754 [[(b_1, .cells #[.int .i64 a0.Op, .int .i64 a0.T, .int .i64 a0.A, .int .i64 a0.B, .int .i64 a0.Imm] 44 (0, 0))], [(b_81, .cells #[.int .u32 0, .int .i64 0] 103 (0, 0))], bif fl_ 3 then gx_ 3 else [], bif fl_ 4 then gx_ 4 else []] := hj_755
    refine s_buildC (zv := .int .i64 0) (E := (intE .i64)) (F := no) (wf := wz) (xs := ([20, 21, 22, 23] : List Int)) (cs := [.int .i64 20, .int .i64 21, .int .i64 22, .int .i64 23]) (vs := [(0, .int .i64 20), (1, .int .i64 21), (2, .int .i64 22), (3, .int .i64 23)]) hp_757 (.cons rfl (.cons rfl (.cons rfl (.cons rfl .nil)))) Try.runUnderlying65 Try.sizeOf3 (by intro w_; kernel_rfl) rfl rfl rfl (Reps.cat.2 rfl) rfl rfl rfl rfl (fun A_758 c_759 w_760 X_761 hp_762 O_763 => ?_)
    refine k_nil ?_
    refine ⟨_, 0, X_761, rfl, ?_, ⟨_, _, rfl, O_763⟩⟩
    exact Hp.cong (hp_762.pick [0, 1, 4, 3] (by decide) rfl) (by kernel_rfl)
   refine .cons [] [] [] rfl rfl rfl (by kernel_rfl) (by kernel_rfl) (by kernel_rfl) ?_ ?_
   ·rintro σ_764 fl_ gb_ gx_ w_765 hj_766 f_767 - - -
    have hp_768 : Hp (On []) no w w w_765 [[(b_1, .cells #[.int .i64 a0.Op, .int .i64 a0.T, .int .i64 a0.A, .int .i64 a0.B, .int .i64 a0.Imm] 44 (0, 0))], [(b_81, .cells #[.int .u32 0, .int .i64 0] 103 (0, 0))], bif fl_ 3 then gx_ 3 else [], bif fl_ 4 then gx_ 4 else []] := hj_766
    refine s_buildC (zv := .int .i64 0) (E := (intE .i64)) (F := no) (wf := wz) (xs := ([31, 31, 19, 17] : List Int)) (cs := [.int .i64 31, .int .i64 31, .int .i64 19, .int .i64 17]) (vs := [(0, .int .i64 31), (1, .int .i64 31), (2, .int .i64 19), (3, .int .i64 17)]) hp_768 (.cons rfl (.cons rfl (.cons rfl (.cons rfl .nil)))) Try.runUnderlying65 Try.sizeOf3 (by intro w_; kernel_rfl) rfl rfl rfl (Reps.cat.2 rfl) rfl rfl rfl rfl (fun A_769 c_770 w_771 X_772 hp_773 O_774 => ?_)
    refine k_nil ?_
    refine ⟨_, 0, X_772, rfl, ?_, ⟨_, _, rfl, O_774⟩⟩
    exact Hp.cong (hp_773.pick [0, 1, 2, 4] (by decide) rfl) (by kernel_rfl)
   refine .cons [3, 4] [3, 4] [] rfl rfl rfl (by kernel_rfl) (by kernel_rfl) (by kernel_rfl) ?_ ?_
   ·rintro σ_775 fl_ gb_ gx_ w_776 hj_777 f_778 ⟨t_779, t_780, -⟩ - ⟨⟨A_782, c_783, f_781, O_784⟩, ⟨A_786, c_787, f_785, O_788⟩, -⟩
    have hp_789 : Hp (On []) no w w w_776 [[(b_1, .cells #[.int .i64 a0.Op, .int .i64 a0.T, .int .i64 a0.A, .int .i64 a0.B, .int .i64 a0.Imm] 44 (0, 0))], [(b_81, .cells #[.int .u32 0, .int .i64 0] 103 (0, 0))], gx_ 3, gx_ 4] := Hp.cong (R := [[(b_1, .cells #[.int .i64 a0.Op, .int .i64 a0.T, .int .i64 a0.A, .int .i64 a0.B, .int .i64 a0.Imm] 44 (0, 0))], [(b_81, .cells #[.int .u32 0, .int .i64 0] 103 (0, 0))], bif fl_ 3 then gx_ 3 else [], bif fl_ 4 then gx_ 4 else []]) hj_777 (by simp only [t_779, t_780, cond_true, cond_false])
    refine s_call (.cons (tm rfl rfl) (.cons (tm rfl f_781) (.cons (tm rfl f_785) .nil))) Try.call47 (selvageref15_pick.calls a0.Op ([20, 21, 22, 23] : List Int) A_782 c_783 ([31, 31, 19, 17] : List Int) A_786 c_787 r_792 _ _ (Hp.offCov hp_789 [] [[(b_1, .cells #[.int .i64 a0.Op, .int .i64 a0.T, .int .i64 a0.A, .int .i64 a0.B, .int .i64 a0.Imm] 44 (0, 0))], [(b_81, .cells #[.int .u32 0, .int .i64 0] 103 (0, 0))], (gx_ 3), (gx_ 4)] rfl) (Own.pass (Own.any O_784) hp_789 (subRest [] [[(b_1, .cells #[.int .i64 a0.Op, .int .i64 a0.T, .int .i64 a0.A, .int .i64 a0.B, .int .i64 a0.Imm] 44 (0, 0))], [(b_81, .cells #[.int .u32 0, .int .i64 0] 103 (0, 0))], (gx_ 3), (gx_ 4)] rfl) (i := 2) rfl) (Own.pass (Own.any O_788) hp_789 (subRest [] [[(b_1, .cells #[.int .i64 a0.Op, .int .i64 a0.T, .int .i64 a0.A, .int .i64 a0.B, .int .i64 a0.Imm] 44 (0, 0))], [(b_81, .cells #[.int .u32 0, .int .i64 0] 103 (0, 0))], (gx_ 3), (gx_ 4)] rfl) (i := 3) rfl) hx_791) rfl ?_
    rintro v_ w_793 ⟨rfl, af_796⟩
    have hp_794 := Hp.callA af_796 hp_789
    refine k_nil ?_
    refine ⟨_, 0, [], rfl, ?_, rfl⟩
    exact Hp.cong (hp_794) (by first | (simp only [upd, updb, updx, t_779, t_780]; done) | (simp only [upd, updb, updx, t_779, t_780]; kernel_rfl) | kernel_rfl)
   refine .cons [5] [] [] rfl rfl rfl (by kernel_rfl) (by kernel_rfl) (by kernel_rfl) ?_ ?_
   ·rintro σ_797 fl_ gb_ gx_ w_798 hj_799 f_800 - - ⟨f_801, -⟩
    have hp_802 : Hp (On []) no w w w_798 [[(b_1, .cells #[.int .i64 a0.Op, .int .i64 a0.T, .int .i64 a0.A, .int .i64 a0.B, .int .i64 a0.Imm] 44 (0, 0))], [(b_81, .cells #[.int .u32 0, .int .i64 0] 103 (0, 0))], bif fl_ 3 then gx_ 3 else [], bif fl_ 4 then gx_ 4 else []] := hj_799
    refine s_call (.cons (tm rfl rfl) (.cons (tm rfl f_801) (.cons rfl .nil))) Try.call46 (selvageref15_word_put.calls (⟨0, 0⟩ : selvageref15_word) r_792 6 r_805 _ hx_804) rfl ?_
    rintro v_ w_806 ⟨rfl, af_809⟩
    have hp_807 := Hp.callA af_809 hp_802
    refine k_nil ?_
    refine ⟨_, 0, [], rfl, ?_, rfl⟩
    exact Hp.cong (hp_807) (by kernel_rfl)
   exact .nil
  rintro σ_810 gb_814 gx_815 w_811 hj_812 ⟨⟨A_819, c_820, f_818, O_821⟩, ⟨A_823, c_824, f_822, O_825⟩, f_826, f_827, -⟩
  have hp_813 := Hp.cong (R' := [[(b_1, .cells #[.int .i64 a0.Op, .int .i64 a0.T, .int .i64 a0.A, .int .i64 a0.B, .int .i64 a0.Imm] 44 (0, 0))], [(b_81, .cells #[.int .u32 0, .int .i64 0] 103 (0, 0))], gx_815 3, gx_815 4]) hj_812 (by kernel_rfl)
  refine seenW [(121, .slice A_819 ([20, 21, 22, 23] : List Int).length c_820), (122, .slice A_823 ([31, 31, 19, 17] : List Int).length c_824), (123, .int .i64 r_792), (124, .agg #[.int .u32 r_805.w, .int .i64 r_805.bits]), (1, .pointer (some ⟨b_1, 0, none⟩)), (10, .pointer (some ⟨b_81, 0, none⟩)), (118, .agg #[.int .u32 0, .int .i64 0]), (120, .int .i64 a0.Op)] ?_ ?_
  ·exact ⟨f_818, f_822, f_826, f_827, rfl, rfl, rfl, rfl, trivial⟩
  refine w_one (m' := 255) 7 rfl (by kernel_rfl) (by kernel_rfl) ?_
  refine s_store (i := 1) (j := 0) (vs := [.int .u32 r_805.w, .int .i64 r_805.bits]) (l' := [.int .u32 r_805.w, .int .i64 r_805.bits]) hp_813 (tm rfl rfl) (tm rfl rfl) rfl Try.sizeOf103 rfl rfl rfl rfl rfl rfl (fun w_828 hp_829 => ?_)
  refine k_nil ?_
  refine ⟨(Wp.of hp_829 [0] rfl), ?_⟩
  refine w_done (by kernel_rfl) ?_
  refine k_seq ?_
  refine kq tb hp_829 [(1, 0, 0)] [(127, .bool (decide (a0.Op = 23)))] (by kernel_rfl) fun σ => ?_
  refine k_if (tm rfl rfl) (fun h_830 => ?_) (fun h_830 => ?_)
  ·have H := ift h_830 H
   refine k_seq ?_
   refine k_region ?_
   refine sv (v := .agg #[.int .u32 r_805.w, .int .i64 r_805.bits]) rfl rfl rfl (e_loadA (tm rfl rfl) Try.isAgg103 Try.sizeOf103 rfl (cells_box (sz := 2) (hp_829.get (i := 1) (j := 0) rfl rfl) rfl)) ?_
   obtain ⟨r_833, hx_832, H⟩ := bindSome H
   refine s_call (.cons (tm rfl rfl) (.cons rfl (.cons rfl .nil))) Try.call46 (selvageref15_word_put.calls r_805 2 26 r_833 _ hx_832) rfl ?_
   rintro v_ w_834 ⟨rfl, af_837⟩
   have hp_835 := Hp.callA af_837 hp_829
   refine sr tb hp_835 [] 3 [(2, .int .u32 r_833.w), (3, .int .i64 0)] (by kernel_rfl) fun σ => ?_
   refine k_nil ?_
   refine k_ret ?_
   refine q_ret ?_
   obtain ⟨v_, H', hv_⟩ := mapSome H
   subst hv_
   have H := H'.trans (show some v_ = _ from G_87)
   obtain rfl := Option.some.inj H
   exact k_end rfl (.tmp rfl rfl (.tmp rfl rfl .nil)) rfl ⟨rfl, (hp_835.pick [] (by decide) rfl).aft⟩
  have H := iff_ h_830 H
  refine k_skip ?_
  refine k_anyF [[0, 1, 2, 3], [0, 1, 2, 3], [0, 1, 2, 3], [0, 1, 2, 3], [0, 1, 2, 3], [0, 1, 2, 3], [0, 1, 2, 3], [0, 1, 2, 3], [0, 1, 2, 3], [0, 1, 2, 3], [0, 1, 2, 3], [0, 1, 2, 3], [0, 1, 2, 3], [0, 1, 2, 3], [0, 1, 2, 3], [0, 2, 3]] [0, 0, 2, 0, 0, 30, 63, 127, 0, 256, 0, 0, 4095, 8191, 16383, 32767] mixed hp_829 16 (by kernel_rfl) (fun w_838 hp_839 => ?_)
  refine w_takes (f := 11) tb [0, 1, 2, 3] (Wp.of hp_839 [0, 1, 2, 3] rfl) [] [] [] [(1, 0, 0), (10, 1, 0)] [] [1, 8, 0, 2, 9] 775 [(131, .agg #[.int .u32 r_805.w, .int .i64 r_805.bits]), (133, .int .i64 a0.Op), (140, .int .i64 a0.Op)] (fun _ => (po_then (po_x po_body))) rfl rfl (by kernel_rfl) fun σ => ?_
  obtain ⟨r_879, hx_878, H⟩ := bindSome H
  obtain ⟨r_892, hx_891, H⟩ := bindSome H
  obtain ⟨r_905, hx_904, H⟩ := bindSome H
  obtain ⟨r_949, hx_948, H⟩ := bindSome H
  obtain ⟨r_963, hx_962, H⟩ := bindSome H
  obtain ⟨r_976, hx_975, H⟩ := bindSome H
  refine seenW [(10, .pointer (some ⟨b_81, 0, none⟩)), (131, .agg #[.int .u32 r_805.w, .int .i64 r_805.bits]), (133, .int .i64 a0.Op), (140, .int .i64 a0.Op)] ⟨rfl, rfl, rfl, rfl, trivial⟩ ?_
  refine w_par (m' := 32767) (fun fl_ gb_ gx_ w_ => Hp (On []) no w w w_ [[(b_1, .cells #[.int .i64 a0.Op, .int .i64 a0.T, .int .i64 a0.A, .int .i64 a0.B, .int .i64 a0.Imm] 44 (0, 0))], [(b_81, .cells #[.int .u32 r_805.w, .int .i64 r_805.bits] 103 (0, 0))], (gx_815 3), (gx_815 4), bif fl_ 3 then gx_ 3 else [], bif fl_ 4 then gx_ 4 else [], bif fl_ 10 then gx_ 10 else [], bif fl_ 11 then gx_ 11 else []]) [⟨3, some 134, fun b X v => ∃ A_ c_, v = .slice A_ ([20, 21, 22] : List Int).length c_ ∧ Own (intE .i64) no wz 3 A_ c_ ([20, 21, 22] : List Int) X⟩, ⟨4, some 135, fun b X v => ∃ A_ c_, v = .slice A_ ([0, 1, 0] : List Int).length c_ ∧ Own (intE .i64) no wz 3 A_ c_ ([0, 1, 0] : List Int) X⟩, ⟨5, some 136, fun b X v => v = .int .i64 r_879⟩, ⟨6, some 137, fun b X v => v = .agg #[.int .u32 r_892.w, .int .i64 r_892.bits]⟩, ⟨7, some 138, fun b X v => v = .agg #[.int .u32 r_905.w, .int .i64 r_905.bits]⟩, ⟨10, some 141, fun b X v => ∃ A_ c_, v = .slice A_ ([20, 21, 22] : List Int).length c_ ∧ Own (intE .i64) no wz 3 A_ c_ ([20, 21, 22] : List Int) X⟩, ⟨11, some 142, fun b X v => ∃ A_ c_, v = .slice A_ ([598, 598, 150] : List Int).length c_ ∧ Own (intE .i64) no wz 3 A_ c_ ([598, 598, 150] : List Int) X⟩, ⟨12, some 143, fun b X v => v = .int .i64 r_949⟩, ⟨13, some 144, fun b X v => v = .agg #[.int .u32 r_963.w, .int .i64 r_963.bits]⟩, ⟨14, some 145, fun b X v => v = .agg #[.int .u32 r_976.w, .int .i64 r_976.bits]⟩] ?_ [3, 4, 5, 6, 7, 10, 11, 12, 13, 14] rfl 10 rfl (by kernel_rfl) rfl (by kernel_rfl) (by kernel_rfl) (by kernel_rfl) (by kernel_rfl) (by kernel_rfl) (Hp.cong (hp_839.pick [0, 1, 2, 3, 4, 5, 6, 7] (by decide) rfl) (by kernel_rfl)) ?_ ?_
  ·intro i hi_ fl_ gb_ gx_ w_ hf_ hj_
   simp only [List.map_cons, List.map_nil, List.mem_cons, List.not_mem_nil, or_false] at hi_
   rcases hi_ with rfl | rfl | rfl | rfl | rfl | rfl | rfl | rfl | rfl | rfl
   ·exact Wp.of hj_ [0, 1, 2, 3] rfl
   ·exact Wp.of hj_ [0, 1, 2, 3] rfl
   ·exact Wp.of hj_ [0, 1, 2, 3] rfl
   ·exact Wp.of hj_ [0, 1, 2, 3] rfl
   ·exact Wp.of hj_ [0, 1, 2, 3] rfl
   ·exact Wp.of hj_ [0, 1, 2, 3] rfl
   ·exact Wp.of hj_ [0, 1, 2, 3] rfl
   ·exact Wp.of hj_ [0, 1, 2, 3] rfl
   ·exact Wp.of hj_ [0, 1, 2, 3] rfl
   ·exact Wp.of hj_ [0, 1, 2, 3] rfl
  ·refine .cons [] [] [] rfl rfl rfl (by kernel_rfl) (by kernel_rfl) (by kernel_rfl) ?_ ?_
   ·rintro σ_840 fl_ gb_ gx_ w_841 hj_842 f_843 - - -
    have hp_844 : Hp (On []) no w w w_841 [[(b_1, .cells #[.int .i64 a0.Op, .int .i64 a0.T, .int .i64 a0.A, .int .i64 a0.B, .int .i64 a0.Imm] 44 (0, 0))], [(b_81, .cells #[.int .u32 r_805.w, .int .i64 r_805.bits] 103 (0, 0))], (gx_815 3), (gx_815 4), bif fl_ 3 then gx_ 3 else [], bif fl_ 4 then gx_ 4 else [], bif fl_ 10 then gx_ 10 else [], bif fl_ 11 then gx_ 11 else []] := hj_842
    refine s_buildC (zv := .int .i64 0) (E := (intE .i64)) (F := no) (wf := wz) (xs := ([20, 21, 22] : List Int)) (cs := [.int .i64 20, .int .i64 21, .int .i64 22]) (vs := [(0, .int .i64 20), (1, .int .i64 21), (2, .int .i64 22)]) hp_844 (.cons rfl (.cons rfl (.cons rfl .nil))) Try.runUnderlying65 Try.sizeOf3 (by intro w_; kernel_rfl) rfl rfl rfl (Reps.cat.2 rfl) rfl rfl rfl rfl (fun A_845 c_846 w_847 X_848 hp_849 O_850 => ?_)
    refine k_nil ?_
    refine ⟨_, 0, X_848, rfl, ?_, ⟨_, _, rfl, O_850⟩⟩
    exact Hp.cong (hp_849.pick [0, 1, 2, 3, 8, 5, 6, 7] (by decide) rfl) (by kernel_rfl)
   refine .cons [] [] [] rfl rfl rfl (by kernel_rfl) (by kernel_rfl) (by kernel_rfl) ?_ ?_
   ·rintro σ_851 fl_ gb_ gx_ w_852 hj_853 f_854 - - -
    have hp_855 : Hp (On []) no w w w_852 [[(b_1, .cells #[.int .i64 a0.Op, .int .i64 a0.T, .int .i64 a0.A, .int .i64 a0.B, .int .i64 a0.Imm] 44 (0, 0))], [(b_81, .cells #[.int .u32 r_805.w, .int .i64 r_805.bits] 103 (0, 0))], (gx_815 3), (gx_815 4), bif fl_ 3 then gx_ 3 else [], bif fl_ 4 then gx_ 4 else [], bif fl_ 10 then gx_ 10 else [], bif fl_ 11 then gx_ 11 else []] := hj_853
    refine s_buildC (zv := .int .i64 0) (E := (intE .i64)) (F := no) (wf := wz) (xs := ([0, 1, 0] : List Int)) (cs := [.int .i64 0, .int .i64 1, .int .i64 0]) (vs := [(0, .int .i64 0), (1, .int .i64 1), (2, .int .i64 0)]) hp_855 (.cons rfl (.cons rfl (.cons rfl .nil))) Try.runUnderlying65 Try.sizeOf3 (by intro w_; kernel_rfl) rfl rfl rfl (Reps.cat.2 rfl) rfl rfl rfl rfl (fun A_856 c_857 w_858 X_859 hp_860 O_861 => ?_)
    refine k_nil ?_
    refine ⟨_, 0, X_859, rfl, ?_, ⟨_, _, rfl, O_861⟩⟩
    exact Hp.cong (hp_860.pick [0, 1, 2, 3, 4, 8, 6, 7] (by decide) rfl) (by kernel_rfl)
   refine .cons [3, 4] [3, 4] [] rfl rfl rfl (by kernel_rfl) (by kernel_rfl) (by kernel_rfl) ?_ ?_
   ·rintro σ_862 fl_ gb_ gx_ w_863 hj_864 f_865 ⟨t_866, t_867, -⟩ - ⟨⟨A_869, c_870, f_868, O_871⟩, ⟨A_873, c_874, f_872, O_875⟩, -⟩
    have hp_876 : Hp (On []) no w w w_863 [[(b_1, .cells #[.int .i64 a0.Op, .int .i64 a0.T, .int .i64 a0.A, .int .i64 a0.B, .int .i64 a0.Imm] 44 (0, 0))], [(b_81, .cells #[.int .u32 r_805.w, .int .i64 r_805.bits] 103 (0, 0))], (gx_815 3), (gx_815 4), gx_ 3, gx_ 4, bif fl_ 10 then gx_ 10 else [], bif fl_ 11 then gx_ 11 else []] := Hp.cong (R := [[(b_1, .cells #[.int .i64 a0.Op, .int .i64 a0.T, .int .i64 a0.A, .int .i64 a0.B, .int .i64 a0.Imm] 44 (0, 0))], [(b_81, .cells #[.int .u32 r_805.w, .int .i64 r_805.bits] 103 (0, 0))], (gx_815 3), (gx_815 4), bif fl_ 3 then gx_ 3 else [], bif fl_ 4 then gx_ 4 else [], bif fl_ 10 then gx_ 10 else [], bif fl_ 11 then gx_ 11 else []]) hj_864 (by simp only [t_866, t_867, cond_true, cond_false])
    refine s_call (.cons (tm rfl rfl) (.cons (tm rfl f_868) (.cons (tm rfl f_872) .nil))) Try.call47 (selvageref15_pick.calls a0.Op ([20, 21, 22] : List Int) A_869 c_870 ([0, 1, 0] : List Int) A_873 c_874 r_879 _ _ (Hp.offCov hp_876 [] [[(b_1, .cells #[.int .i64 a0.Op, .int .i64 a0.T, .int .i64 a0.A, .int .i64 a0.B, .int .i64 a0.Imm] 44 (0, 0))], [(b_81, .cells #[.int .u32 r_805.w, .int .i64 r_805.bits] 103 (0, 0))], (gx_815 3), (gx_815 4), (gx_ 3), (gx_ 4), (bif fl_ 10 then gx_ 10 else []), (bif fl_ 11 then gx_ 11 else [])] rfl) (Own.pass (Own.any O_871) hp_876 (subRest [] [[(b_1, .cells #[.int .i64 a0.Op, .int .i64 a0.T, .int .i64 a0.A, .int .i64 a0.B, .int .i64 a0.Imm] 44 (0, 0))], [(b_81, .cells #[.int .u32 r_805.w, .int .i64 r_805.bits] 103 (0, 0))], (gx_815 3), (gx_815 4), (gx_ 3), (gx_ 4), (bif fl_ 10 then gx_ 10 else []), (bif fl_ 11 then gx_ 11 else [])] rfl) (i := 4) rfl) (Own.pass (Own.any O_875) hp_876 (subRest [] [[(b_1, .cells #[.int .i64 a0.Op, .int .i64 a0.T, .int .i64 a0.A, .int .i64 a0.B, .int .i64 a0.Imm] 44 (0, 0))], [(b_81, .cells #[.int .u32 r_805.w, .int .i64 r_805.bits] 103 (0, 0))], (gx_815 3), (gx_815 4), (gx_ 3), (gx_ 4), (bif fl_ 10 then gx_ 10 else []), (bif fl_ 11 then gx_ 11 else [])] rfl) (i := 5) rfl) hx_878) rfl ?_
    rintro v_ w_880 ⟨rfl, af_883⟩
    have hp_881 := Hp.callA af_883 hp_876
    refine k_nil ?_
    refine ⟨_, 0, [], rfl, ?_, rfl⟩
    exact Hp.cong (hp_881) (by first | (simp only [upd, updb, updx, t_866, t_867]; done) | (simp only [upd, updb, updx, t_866, t_867]; kernel_rfl) | kernel_rfl)
   refine .cons [5] [] [] rfl rfl rfl (by kernel_rfl) (by kernel_rfl) (by kernel_rfl) ?_ ?_
   ·rintro σ_884 fl_ gb_ gx_ w_885 hj_886 f_887 - - ⟨f_888, -⟩
    have hp_889 : Hp (On []) no w w w_885 [[(b_1, .cells #[.int .i64 a0.Op, .int .i64 a0.T, .int .i64 a0.A, .int .i64 a0.B, .int .i64 a0.Imm] 44 (0, 0))], [(b_81, .cells #[.int .u32 r_805.w, .int .i64 r_805.bits] 103 (0, 0))], (gx_815 3), (gx_815 4), bif fl_ 3 then gx_ 3 else [], bif fl_ 4 then gx_ 4 else [], bif fl_ 10 then gx_ 10 else [], bif fl_ 11 then gx_ 11 else []] := hj_886
    refine s_call (.cons (tm rfl rfl) (.cons (tm rfl f_888) (.cons rfl .nil))) Try.call46 (selvageref15_word_put.calls r_805 r_879 5 r_892 _ hx_891) rfl ?_
    rintro v_ w_893 ⟨rfl, af_896⟩
    have hp_894 := Hp.callA af_896 hp_889
    refine k_nil ?_
    refine ⟨_, 0, [], rfl, ?_, rfl⟩
    exact Hp.cong (hp_894) (by kernel_rfl)
   refine .cons [6] [] [] rfl rfl rfl (by kernel_rfl) (by kernel_rfl) (by kernel_rfl) ?_ ?_
   ·rintro σ_897 fl_ gb_ gx_ w_898 hj_899 f_900 - - ⟨f_901, -⟩
    have hp_902 : Hp (On []) no w w w_898 [[(b_1, .cells #[.int .i64 a0.Op, .int .i64 a0.T, .int .i64 a0.A, .int .i64 a0.B, .int .i64 a0.Imm] 44 (0, 0))], [(b_81, .cells #[.int .u32 r_805.w, .int .i64 r_805.bits] 103 (0, 0))], (gx_815 3), (gx_815 4), bif fl_ 3 then gx_ 3 else [], bif fl_ 4 then gx_ 4 else [], bif fl_ 10 then gx_ 10 else [], bif fl_ 11 then gx_ 11 else []] := hj_899
    refine s_call (.cons (tm rfl f_901) (.cons rfl (.cons rfl .nil))) Try.call46 (selvageref15_word_put.calls r_892 0 10 r_905 _ hx_904) rfl ?_
    rintro v_ w_906 ⟨rfl, af_909⟩
    have hp_907 := Hp.callA af_909 hp_902
    refine k_nil ?_
    refine ⟨_, 0, [], rfl, ?_, rfl⟩
    exact Hp.cong (hp_907) (by kernel_rfl)
   refine .cons [] [] [] rfl rfl rfl (by kernel_rfl) (by kernel_rfl) (by kernel_rfl) ?_ ?_
   ·rintro σ_910 fl_ gb_ gx_ w_911 hj_912 f_913 - - -
    have hp_914 : Hp (On []) no w w w_911 [[(b_1, .cells #[.int .i64 a0.Op, .int .i64 a0.T, .int .i64 a0.A, .int .i64 a0.B, .int .i64 a0.Imm] 44 (0, 0))], [(b_81, .cells #[.int .u32 r_805.w, .int .i64 r_805.bits] 103 (0, 0))], (gx_815 3), (gx_815 4), bif fl_ 3 then gx_ 3 else [], bif fl_ 4 then gx_ 4 else [], bif fl_ 10 then gx_ 10 else [], bif fl_ 11 then gx_ 11 else []] := hj_912
    refine s_buildC (zv := .int .i64 0) (E := (intE .i64)) (F := no) (wf := wz) (xs := ([20, 21, 22] : List Int)) (cs := [.int .i64 20, .int .i64 21, .int .i64 22]) (vs := [(0, .int .i64 20), (1, .int .i64 21), (2, .int .i64 22)]) hp_914 (.cons rfl (.cons rfl (.cons rfl .nil))) Try.runUnderlying65 Try.sizeOf3 (by intro w_; kernel_rfl) rfl rfl rfl (Reps.cat.2 rfl) rfl rfl rfl rfl (fun A_915 c_916 w_917 X_918 hp_919 O_920 => ?_)
    refine k_nil ?_
    refine ⟨_, 0, X_918, rfl, ?_, ⟨_, _, rfl, O_920⟩⟩
    exact Hp.cong (hp_919.pick [0, 1, 2, 3, 4, 5, 8, 7] (by decide) rfl) (by kernel_rfl)
   refine .cons [] [] [] rfl rfl rfl (by kernel_rfl) (by kernel_rfl) (by kernel_rfl) ?_ ?_
   ·rintro σ_921 fl_ gb_ gx_ w_922 hj_923 f_924 - - -
    have hp_925 : Hp (On []) no w w w_922 [[(b_1, .cells #[.int .i64 a0.Op, .int .i64 a0.T, .int .i64 a0.A, .int .i64 a0.B, .int .i64 a0.Imm] 44 (0, 0))], [(b_81, .cells #[.int .u32 r_805.w, .int .i64 r_805.bits] 103 (0, 0))], (gx_815 3), (gx_815 4), bif fl_ 3 then gx_ 3 else [], bif fl_ 4 then gx_ 4 else [], bif fl_ 10 then gx_ 10 else [], bif fl_ 11 then gx_ 11 else []] := hj_923
    refine s_buildC (zv := .int .i64 0) (E := (intE .i64)) (F := no) (wf := wz) (xs := ([598, 598, 150] : List Int)) (cs := [.int .i64 598, .int .i64 598, .int .i64 150]) (vs := [(0, .int .i64 598), (1, .int .i64 598), (2, .int .i64 150)]) hp_925 (.cons rfl (.cons rfl (.cons rfl .nil))) Try.runUnderlying65 Try.sizeOf3 (by intro w_; kernel_rfl) rfl rfl rfl (Reps.cat.2 rfl) rfl rfl rfl rfl (fun A_926 c_927 w_928 X_929 hp_930 O_931 => ?_)
    refine k_nil ?_
    refine ⟨_, 0, X_929, rfl, ?_, ⟨_, _, rfl, O_931⟩⟩
    exact Hp.cong (hp_930.pick [0, 1, 2, 3, 4, 5, 6, 8] (by decide) rfl) (by kernel_rfl)
   refine .cons [10, 11] [10, 11] [] rfl rfl rfl (by kernel_rfl) (by kernel_rfl) (by kernel_rfl) ?_ ?_
   ·rintro σ_932 fl_ gb_ gx_ w_933 hj_934 f_935 ⟨t_936, t_937, -⟩ - ⟨⟨A_939, c_940, f_938, O_941⟩, ⟨A_943, c_944, f_942, O_945⟩, -⟩
    have hp_946 : Hp (On []) no w w w_933 [[(b_1, .cells #[.int .i64 a0.Op, .int .i64 a0.T, .int .i64 a0.A, .int .i64 a0.B, .int .i64 a0.Imm] 44 (0, 0))], [(b_81, .cells #[.int .u32 r_805.w, .int .i64 r_805.bits] 103 (0, 0))], (gx_815 3), (gx_815 4), bif fl_ 3 then gx_ 3 else [], bif fl_ 4 then gx_ 4 else [], gx_ 10, gx_ 11] := Hp.cong (R := [[(b_1, .cells #[.int .i64 a0.Op, .int .i64 a0.T, .int .i64 a0.A, .int .i64 a0.B, .int .i64 a0.Imm] 44 (0, 0))], [(b_81, .cells #[.int .u32 r_805.w, .int .i64 r_805.bits] 103 (0, 0))], (gx_815 3), (gx_815 4), bif fl_ 3 then gx_ 3 else [], bif fl_ 4 then gx_ 4 else [], bif fl_ 10 then gx_ 10 else [], bif fl_ 11 then gx_ 11 else []]) hj_934 (by simp only [t_936, t_937, cond_true, cond_false])
    refine s_call (.cons (tm rfl rfl) (.cons (tm rfl f_938) (.cons (tm rfl f_942) .nil))) Try.call47 (selvageref15_pick.calls a0.Op ([20, 21, 22] : List Int) A_939 c_940 ([598, 598, 150] : List Int) A_943 c_944 r_949 _ _ (Hp.offCov hp_946 [] [[(b_1, .cells #[.int .i64 a0.Op, .int .i64 a0.T, .int .i64 a0.A, .int .i64 a0.B, .int .i64 a0.Imm] 44 (0, 0))], [(b_81, .cells #[.int .u32 r_805.w, .int .i64 r_805.bits] 103 (0, 0))], (gx_815 3), (gx_815 4), (bif fl_ 3 then gx_ 3 else []), (bif fl_ 4 then gx_ 4 else []), (gx_ 10), (gx_ 11)] rfl) (Own.pass (Own.any O_941) hp_946 (subRest [] [[(b_1, .cells #[.int .i64 a0.Op, .int .i64 a0.T, .int .i64 a0.A, .int .i64 a0.B, .int .i64 a0.Imm] 44 (0, 0))], [(b_81, .cells #[.int .u32 r_805.w, .int .i64 r_805.bits] 103 (0, 0))], (gx_815 3), (gx_815 4), (bif fl_ 3 then gx_ 3 else []), (bif fl_ 4 then gx_ 4 else []), (gx_ 10), (gx_ 11)] rfl) (i := 6) rfl) (Own.pass (Own.any O_945) hp_946 (subRest [] [[(b_1, .cells #[.int .i64 a0.Op, .int .i64 a0.T, .int .i64 a0.A, .int .i64 a0.B, .int .i64 a0.Imm] 44 (0, 0))], [(b_81, .cells #[.int .u32 r_805.w, .int .i64 r_805.bits] 103 (0, 0))], (gx_815 3), (gx_815 4), (bif fl_ 3 then gx_ 3 else []), (bif fl_ 4 then gx_ 4 else []), (gx_ 10), (gx_ 11)] rfl) (i := 7) rfl) hx_948) rfl ?_
    rintro v_ w_950 ⟨rfl, af_953⟩
    have hp_951 := Hp.callA af_953 hp_946
    refine k_nil ?_
    refine ⟨_, 0, [], rfl, ?_, rfl⟩
    exact Hp.cong (hp_951) (by first | (simp only [upd, updb, updx, t_936, t_937]; done) | (simp only [upd, updb, updx, t_936, t_937]; kernel_rfl) | kernel_rfl)
   refine .cons [7, 12] [] [] rfl rfl rfl (by kernel_rfl) (by kernel_rfl) (by kernel_rfl) ?_ ?_
   ·rintro σ_954 fl_ gb_ gx_ w_955 hj_956 f_957 - - ⟨f_958, f_959, -⟩
    have hp_960 : Hp (On []) no w w w_955 [[(b_1, .cells #[.int .i64 a0.Op, .int .i64 a0.T, .int .i64 a0.A, .int .i64 a0.B, .int .i64 a0.Imm] 44 (0, 0))], [(b_81, .cells #[.int .u32 r_805.w, .int .i64 r_805.bits] 103 (0, 0))], (gx_815 3), (gx_815 4), bif fl_ 3 then gx_ 3 else [], bif fl_ 4 then gx_ 4 else [], bif fl_ 10 then gx_ 10 else [], bif fl_ 11 then gx_ 11 else []] := hj_956
    refine s_call (.cons (tm rfl f_958) (.cons (tm rfl f_959) (.cons rfl .nil))) Try.call46 (selvageref15_word_put.calls r_905 r_949 10 r_963 _ hx_962) rfl ?_
    rintro v_ w_964 ⟨rfl, af_967⟩
    have hp_965 := Hp.callA af_967 hp_960
    refine k_nil ?_
    refine ⟨_, 0, [], rfl, ?_, rfl⟩
    exact Hp.cong (hp_965) (by kernel_rfl)
   refine .cons [13] [] [] rfl rfl rfl (by kernel_rfl) (by kernel_rfl) (by kernel_rfl) ?_ ?_
   ·rintro σ_968 fl_ gb_ gx_ w_969 hj_970 f_971 - - ⟨f_972, -⟩
    have hp_973 : Hp (On []) no w w w_969 [[(b_1, .cells #[.int .i64 a0.Op, .int .i64 a0.T, .int .i64 a0.A, .int .i64 a0.B, .int .i64 a0.Imm] 44 (0, 0))], [(b_81, .cells #[.int .u32 r_805.w, .int .i64 r_805.bits] 103 (0, 0))], (gx_815 3), (gx_815 4), bif fl_ 3 then gx_ 3 else [], bif fl_ 4 then gx_ 4 else [], bif fl_ 10 then gx_ 10 else [], bif fl_ 11 then gx_ 11 else []] := hj_970
    refine s_call (.cons (tm rfl f_972) (.cons rfl (.cons rfl .nil))) Try.call46 (selvageref15_word_put.calls r_963 0 1 r_976 _ hx_975) rfl ?_
    rintro v_ w_977 ⟨rfl, af_980⟩
    have hp_978 := Hp.callA af_980 hp_973
    refine k_nil ?_
    refine ⟨_, 0, [], rfl, ?_, rfl⟩
    exact Hp.cong (hp_978) (by kernel_rfl)
   exact .nil
  rintro σ_981 gb_985 gx_986 w_982 hj_983 ⟨⟨A_992, c_993, f_991, O_994⟩, ⟨A_996, c_997, f_995, O_998⟩, f_999, f_1000, f_1001, ⟨A_1003, c_1004, f_1002, O_1005⟩, ⟨A_1007, c_1008, f_1006, O_1009⟩, f_1010, f_1011, f_1012, -⟩
  have hp_984 := Hp.cong (R' := [[(b_1, .cells #[.int .i64 a0.Op, .int .i64 a0.T, .int .i64 a0.A, .int .i64 a0.B, .int .i64 a0.Imm] 44 (0, 0))], [(b_81, .cells #[.int .u32 r_805.w, .int .i64 r_805.bits] 103 (0, 0))], (gx_815 3), (gx_815 4), gx_986 3, gx_986 4, gx_986 10, gx_986 11]) hj_983 (by kernel_rfl)
  refine seenW [(134, .slice A_992 ([20, 21, 22] : List Int).length c_993), (135, .slice A_996 ([0, 1, 0] : List Int).length c_997), (136, .int .i64 r_879), (137, .agg #[.int .u32 r_892.w, .int .i64 r_892.bits]), (138, .agg #[.int .u32 r_905.w, .int .i64 r_905.bits]), (141, .slice A_1003 ([20, 21, 22] : List Int).length c_1004), (142, .slice A_1007 ([598, 598, 150] : List Int).length c_1008), (143, .int .i64 r_949), (144, .agg #[.int .u32 r_963.w, .int .i64 r_963.bits]), (145, .agg #[.int .u32 r_976.w, .int .i64 r_976.bits]), (10, .pointer (some ⟨b_81, 0, none⟩)), (131, .agg #[.int .u32 r_805.w, .int .i64 r_805.bits]), (133, .int .i64 a0.Op), (140, .int .i64 a0.Op)] ?_ ?_
  ·exact ⟨f_991, f_995, f_999, f_1000, f_1001, f_1002, f_1006, f_1010, f_1011, f_1012, rfl, rfl, rfl, rfl, trivial⟩
  refine w_one (m' := 65535) 15 rfl (by kernel_rfl) (by kernel_rfl) ?_
  refine s_store (i := 1) (j := 0) (vs := [.int .u32 r_976.w, .int .i64 r_976.bits]) (l' := [.int .u32 r_976.w, .int .i64 r_976.bits]) hp_984 (tm rfl rfl) (tm rfl rfl) rfl Try.sizeOf103 rfl rfl rfl rfl rfl rfl (fun w_1013 hp_1014 => ?_)
  refine k_nil ?_
  refine ⟨(Wp.of hp_1014 [0, 2, 3] rfl), ?_⟩
  refine w_done (by kernel_rfl) ?_
  obtain rfl := Option.some.inj H
  exact ⟨(r_976.w, r_976.bits), _, rfl, seenF ⟨rfl, trivial⟩, hp_1014.pick [1] (by decide) rfl⟩
 clear H
 rintro a w' ⟨s_88, σ_1015, rfl, rfl, hp_1016⟩
 have H := G_87
 refine kq tb hp_1016 [(10, 0, 0)] [(2, .int .u32 s_88.1), (3, .int .i64 0)] (by kernel_rfl) fun σ => ?_
 refine k_ret ?_
 obtain rfl := Option.some.inj H
 exact k_end rfl (.tmp rfl rfl (.tmp rfl rfl .nil)) rfl ⟨rfl, (hp_1016.pick [] (by decide) rfl).aft⟩

end Go.Proofs.Ytcnchjlomcafeaa.W

/- Functions of the program as plain Lean functions, and that the calls do what they say: written by wip/tools/walk.py. -/
import Derived.Test.YtallojficgiemaaTy
import Derived.Test.YtallojficgiemaaF0
import Derived.Test.YtallojficgiemaaF1
import Derived.Test.YtallojficgiemaaF2
import Derived.Test.YtallojficgiemaaF3
import Derived.Test.YtallojficgiemaaF4
import Derived.Test.YtallojficgiemaaF5
import Derived.Test.YtallojficgiemaaF6
import Derived.Test.YtallojficgiemaaF7
import Derived.Test.YtallojficgiemaaF8
import Derived.Test.YtallojficgiemaaF9
import Derived.Test.YtallojficgiemaaF10
import Derived.Test.YtallojficgiemaaF11
import Derived.Test.YtallojficgiemaaF12
import Derived.Test.YtallojficgiemaaF13
set_option linter.unusedVariables false
set_option linter.unusedSimpArgs false
set_option linter.unusedSectionVars false
namespace Go.Proofs.Ytallojficgiemaa.W
open Go Go.RowKit Go.Proofs.Ytallojficgiemaa.B
attribute [local irreducible] Go.wpList Go.Code.wp Go.Region.wanted Go.yielded
/-! ### selvage/selvageref15.Encode: function 9 -/
def selvageref15_Encode.m (k : Nat) (a0 : api_Inst) : Option (Int × Int) := (selvageref15_sort.m a0.Op).bind fun r7 => ((selvageref15_uses.m r7).bind fun r11 => ((if (decide (r7 = 0)) = true then (some true) else ((selvageref15_has.m k r11 116).bind fun r18 => (if ((!r18) && (!decide (a0.T = 0))) = true then (some true) else ((selvageref15_has.m k r11 97).bind fun r23 => (if ((!r23) && (!decide (a0.A = 0))) = true then (some true) else ((selvageref15_has.m k r11 98).bind fun r28 => (if ((!r28) && (!decide (a0.B = 0))) = true then (some true) else ((selvageref15_has.m k r11 105).bind fun r33 => (some ((!r33) && (!decide (a0.Imm = 0)))))))))))).bind fun o12 => (if o12 = true then (some (0, 3)) else ((if (decide (r7 = 8)) = true then (some 3) else (some 31)).bind fun o46 => ((if ((((((((decide (a0.T < 0)) || (decide (a0.T > o46))) || (decide (a0.A < 0))) || (decide (a0.A > 31))) || (decide (a0.B < 0))) || (decide (a0.B > 31))) || (decide (a0.Imm < ((selvageref15_bounds.m r7).1)))) || (decide (a0.Imm > ((selvageref15_bounds.m r7).2.1)))) = true then (some true) else (if ((selvageref15_bounds.m r7).2.2) ≠ 0 then (some (!decide ((Int.tmod a0.Imm ((selvageref15_bounds.m r7).2.2)) = 0))) else none)).bind fun o53 => (if o53 = true then (some (0, 2)) else ((if (decide (r7 = 1)) = true then ((selvageref15_pick.m k a0.Op ([1, 2] : List Int) ([14, 15] : List Int)).bind fun r148 => ((selvageref15_word_put.m k (⟨0, 0⟩ : selvageref15_word) r148 6).bind fun r167 => ((selvageref15_word_put.m k r167 a0.T 5).bind fun r202 => ((selvageref15_word_put.m k r202 a0.A 5).bind fun r237 => ((selvageref15_word_put.m k r237 a0.Imm 16).bind fun r272 => (some (Sum.inl (r272.w, r272.bits)))))))) else (if (decide (r7 = 2)) = true then ((selvageref15_pick.m k a0.Op ([3, 4] : List Int) ([24, 25] : List Int)).bind fun r362 => ((selvageref15_word_put.m k (⟨0, 0⟩ : selvageref15_word) r362 6).bind fun r381 => ((selvageref15_word_put.m k r381 a0.A 5).bind fun r416 => ((selvageref15_word_put.m k r416 a0.T 5).bind fun r451 => ((selvageref15_word_put.m k r451 a0.Imm 16).bind fun r486 => (some (Sum.inl (r486.w, r486.bits)))))))) else (if (decide (r7 = 3)) = true then ((selvageref15_word_put.m k (⟨0, 0⟩ : selvageref15_word) 30 6).bind fun r518 => ((selvageref15_word_put.m k r518 a0.A 5).bind fun r553 => ((selvageref15_word_put.m k r553 a0.T 5).bind fun r588 => ((selvageref15_word_put.m k r588 a0.Imm 5).bind fun r623 => ((selvageref15_word_put.m k r623 (wrap64 (63 - a0.Imm)) 5).bind fun r668 => ((selvageref15_word_put.m k r668 (wrap64 (Int.tdiv (wrap64 (63 - a0.Imm)) 32)) 1).bind fun r723 => ((selvageref15_word_put.m k r723 1 3).bind fun r738 => ((selvageref15_word_put.m k r738 (wrap64 (Int.tdiv a0.Imm 32)) 1).bind fun r783 => ((selvageref15_word_put.m k r783 0 1).bind fun r798 => (some (Sum.inl (r798.w, r798.bits)))))))))))) else (if (decide (r7 = 4)) = true then ((selvageref15_pick.m k a0.Op ([6, 7, 8, 9, 12, 13, 14, 15] : List Int) ([266, 40, 233, 489, 21, 149, 84, 214] : List Int)).bind fun r826 => ((if (decide (a0.Op = 15)) = true then (some 1) else (some 0)).bind fun o827 => ((selvageref15_word_put.m k (⟨0, 0⟩ : selvageref15_word) 31 6).bind fun r853 => ((selvageref15_word_put.m k r853 a0.T 5).bind fun r888 => ((selvageref15_word_put.m k r888 a0.A 5).bind fun r923 => ((selvageref15_word_put.m k r923 a0.B 5).bind fun r958 => ((selvageref15_word_put.m k r958 r826 10).bind fun r983 => ((selvageref15_word_put.m k r983 o827 1).bind fun r1008 => (some (Sum.inl (r1008.w, r1008.bits))))))))))) else (if (decide (r7 = 5)) = true then ((selvageref15_pick.m k a0.Op ([10, 11] : List Int) ([58, 62] : List Int)).bind fun r1100 => ((selvageref15_word_put.m k (⟨0, 0⟩ : selvageref15_word) r1100 6).bind fun r1119 => ((selvageref15_word_put.m k r1119 a0.T 5).bind fun r1154 => ((selvageref15_word_put.m k r1154 a0.A 5).bind fun r1189 => ((selvageref15_word_put.m k r1189 (wrap64 (Int.tdiv a0.Imm 4)) 14).bind fun r1234 => ((selvageref15_word_put.m k r1234 0 2).bind fun r1249 => (some (Sum.inl (r1249.w, r1249.bits))))))))) else (if (decide (r7 = 6)) = true then ((selvageref15_word_put.m k (⟨0, 0⟩ : selvageref15_word) 31 6).bind fun r1281 => ((selvageref15_word_put.m k r1281 1 5).bind fun r1296 => ((selvageref15_word_put.m k r1296 a0.A 5).bind fun r1331 => ((selvageref15_word_put.m k r1331 a0.B 5).bind fun r1366 => ((selvageref15_word_put.m k r1366 0 11).bind fun r1381 => (some (Sum.inl (r1381.w, r1381.bits)))))))) else (if (decide (r7 = 7)) = true then ((selvageref15_word_put.m k (⟨0, 0⟩ : selvageref15_word) 11 6).bind fun r1413 => ((selvageref15_word_put.m k r1413 1 5).bind fun r1428 => ((selvageref15_word_put.m k r1428 a0.A 5).bind fun r1463 => ((selvageref15_word_put.m k r1463 a0.Imm 16).bind fun r1498 => (some (Sum.inl (r1498.w, r1498.bits))))))) else (if (decide (r7 = 8)) = true then ((selvageref15_word_put.m k (⟨0, 0⟩ : selvageref15_word) 16 6).bind fun r1530 => (if 0 ≤ a0.T ∧ a0.T < 4 then ((selvageref15_word_put.m k r1530 (gi (intE .i64) ([12, 4, 12, 4] : List Int) a0.T) 5).bind fun r1586 => ((selvageref15_word_put.m k r1586 (gi (intE .i64) ([0, 0, 2, 2] : List Int) a0.T) 5).bind fun r1641 => ((selvageref15_word_put.m k r1641 (wrap64 (Int.tdiv a0.Imm 4)) 14).bind fun r1686 => ((selvageref15_word_put.m k r1686 0 2).bind fun r1701 => (some (Sum.inl (r1701.w, r1701.bits))))))) else none)) else (if (decide (r7 = 9)) = true then ((selvageref15_word_put.m k (⟨0, 0⟩ : selvageref15_word) 18 6).bind fun r1733 => ((selvageref15_word_put.m k r1733 (wrap64 (Int.tdiv a0.Imm 4)) 24).bind fun r1778 => ((selvageref15_word_put.m k r1778 0 2).bind fun r1793 => (some (Sum.inl (r1793.w, r1793.bits)))))) else ((selvageref15_pick.m k a0.Op ([20, 21, 22, 23] : List Int) ([31, 31, 19, 17] : List Int)).bind fun r1882 => ((selvageref15_word_put.m k (⟨0, 0⟩ : selvageref15_word) r1882 6).bind fun r1901 => (if (decide (a0.Op = 23)) = true then ((selvageref15_word_put.m k r1901 2 26).bind fun r1917 => (some (Sum.inr (r1917.w, 0)))) else ((selvageref15_pick.m k a0.Op ([20, 21, 22] : List Int) ([0, 1, 0] : List Int)).bind fun r1996 => ((selvageref15_word_put.m k r1901 r1996 5).bind fun r2015 => ((selvageref15_word_put.m k r2015 0 10).bind fun r2030 => ((selvageref15_pick.m k a0.Op ([20, 21, 22] : List Int) ([598, 598, 150] : List Int)).bind fun r2103 => ((selvageref15_word_put.m k r2030 r2103 10).bind fun r2122 => ((selvageref15_word_put.m k r2122 0 1).bind fun r2137 => (some (Sum.inl (r2137.w, r2137.bits))))))))))))))))))))).bind fun o67 => Sum.elim (fun s69 => (some (s69.1, 0))) (fun r2154 => some r2154) o67)))))))
set_option maxHeartbeats 4000000 in
set_option maxRecDepth 100000 in
theorem selvageref15_Encode.calls (k : Nat) (a0 : api_Inst) (r : Int × Int) (w : World) (H : selvageref15_Encode.m k a0 = some r) :
    Ret Try.prog 9 [.agg #[.int .i64 a0.Op, .int .i64 a0.T, .int .i64 a0.A, .int .i64 a0.B, .int .i64 a0.Imm]] w fun v w' => v = .tuple #[.int .u32 r.1, .int .i64 r.2] ∧ Below w.heap.size w w' := by
  unfold selvageref15_Encode.m at H
  have hp0 := Hp.start w
  refine enter (L := [(0, .agg #[.int .i64 a0.Op, .int .i64 a0.T, .int .i64 a0.A, .int .i64 a0.B, .int .i64 a0.Imm])]) Try.func9 rfl Try.ntmps9 rfl rfl ?_
  refine k_seq ?_
  refine k_region ?_
  refine s_box hp0 (tm rfl rfl) rfl rfl (fun b1 w2 hp3 => ?_)
  refine sv (v := .int .u32 0) rfl rfl rfl (e_assign rfl) ?_
  refine sv (v := .int .i64 0) rfl rfl rfl (e_assign rfl) ?_
  refine k_nil ?_
  refine k_seq ?_
  refine k_region ?_
  refine sv (v := .pointer (some ⟨b1, 0, none⟩)) rfl rfl rfl (e_fieldAddr (tm rfl rfl) Try.runUnderlying23 rfl Try.sizeOf3 rfl rfl) ?_
  refine sv (v := .int .i64 a0.Op) rfl rfl rfl (e_load1 (tm rfl rfl) Try.isAgg3 (cell_at (hp3.get (i := 0) (j := 0) rfl rfl) rfl)) ?_
  obtain ⟨r7, hx2160, H⟩ := bindSome H
  refine s_call (.cons (tm rfl rfl) .nil) Try.call15 (selvageref15_sort.calls a0.Op r7 _ hx2160) rfl ?_
  rintro v_ w4 ⟨rfl, hb5⟩
  have hp6 := hp3.grow hb5
  refine sv (v := .int .i64 r7) rfl rfl rfl (e_assign (tm rfl rfl)) ?_
  refine k_nil ?_
  refine k_seq ?_
  refine k_region ?_
  refine sv (v := .int .i64 r7) rfl rfl rfl (e_move (tm rfl rfl)) ?_
  obtain ⟨r11, hx2159, H⟩ := bindSome H
  refine s_call (.cons (tm rfl rfl) .nil) Try.call16 (selvageref15_uses.calls r7 r11 _ hx2159) rfl ?_
  rintro v_ w8 ⟨rfl, hb9⟩
  have hp10 := hp6.grow hb9
  refine sv (v := .string r11) rfl rfl rfl (e_assign (tm rfl rfl)) ?_
  refine k_nil ?_
  refine k_seq ?_
  refine k_seq ?_
  obtain ⟨o12, H, G13⟩ := bindSome H
  refine k_cut (fun a w' => ∃ (σ2162 : Nat → Value), a = st 308 [(1, .pointer (some ⟨b1, 0, none⟩)), (4, .int .i64 r7), (59, .bool o12)] σ2162 [] ∧ Hp0 w w' [[(b1, .cells #[.int .i64 a0.Op, .int .i64 a0.T, .int .i64 a0.A, .int .i64 a0.B, .int .i64 a0.Imm] 23 (0, 0))]]) ?_ ?_
  · refine k_region ?_
    refine sv (v := .int .i64 r7) rfl rfl rfl (e_move (tm rfl rfl)) ?_
    refine sv (v := .bool (decide (r7 = 0))) rfl rfl rfl (e_bin (tm rfl rfl) rfl (r_eql rfl)) ?_
    refine sv (v := .bool (decide (r7 = 0))) rfl rfl rfl (e_move (tm rfl rfl)) ?_
    refine s_gp (v := .string r11) rfl rfl rfl (beq_f _) (fun g_ => e_move (tm rfl rfl)) rfl ?_
    rcases Bool.eq_false_or_eq_true (decide (r7 = 0)) with h14 | h14
    · have H := ift h14 H
      refine goff rfl rfl (congrArg Value.bool h14) rfl ?_
      refine goff rfl rfl (congrArg Value.bool h14) rfl ?_
      refine goff rfl rfl (congrArg Value.bool h14) rfl ?_
      refine goffu rfl rfl rfl rfl ?_
      refine goffu rfl rfl rfl rfl ?_
      refine goffu rfl rfl rfl rfl ?_
      refine goff rfl rfl (congrArg Value.bool h14) rfl ?_
      refine sv (v := .bool true) rfl rfl rfl (e_pick (v1 := .bool true) (v2 := .bool true) (tm rfl rfl) (fun _ => rfl) (fun h_ => by rw [h14] at h_; cases h_) (by rw [h14]; rfl)) ?_
      refine sv (v := .bool true) rfl rfl rfl (e_move (tm rfl rfl)) ?_
      refine goff rfl rfl rfl rfl ?_
      refine goff rfl rfl rfl rfl ?_
      refine goff rfl rfl rfl rfl ?_
      refine goff rfl rfl rfl rfl ?_
      refine goffu rfl rfl rfl rfl ?_
      refine goffu rfl rfl rfl rfl ?_
      refine goffu rfl rfl rfl rfl ?_
      refine goff rfl rfl rfl rfl ?_
      refine sv (v := .bool true) rfl rfl rfl (e_pick (v1 := .bool true) (v2 := .bool true) (tm rfl rfl) (fun _ => rfl) (fun h_ => by cases h_) rfl) ?_
      refine sv (v := .bool true) rfl rfl rfl (e_move (tm rfl rfl)) ?_
      refine goff rfl rfl rfl rfl ?_
      refine goff rfl rfl rfl rfl ?_
      refine goff rfl rfl rfl rfl ?_
      refine goff rfl rfl rfl rfl ?_
      refine goffu rfl rfl rfl rfl ?_
      refine goffu rfl rfl rfl rfl ?_
      refine goffu rfl rfl rfl rfl ?_
      refine goff rfl rfl rfl rfl ?_
      refine sv (v := .bool true) rfl rfl rfl (e_pick (v1 := .bool true) (v2 := .bool true) (tm rfl rfl) (fun _ => rfl) (fun h_ => by cases h_) rfl) ?_
      refine sv (v := .bool true) rfl rfl rfl (e_move (tm rfl rfl)) ?_
      refine goff rfl rfl rfl rfl ?_
      refine goff rfl rfl rfl rfl ?_
      refine goff rfl rfl rfl rfl ?_
      refine goff rfl rfl rfl rfl ?_
      refine goffu rfl rfl rfl rfl ?_
      refine goffu rfl rfl rfl rfl ?_
      refine goffu rfl rfl rfl rfl ?_
      refine goff rfl rfl rfl rfl ?_
      refine sv (v := .bool true) rfl rfl rfl (e_pick (v1 := .bool true) (v2 := .bool true) (tm rfl rfl) (fun _ => rfl) (fun h_ => by cases h_) rfl) ?_
      refine k_nil ?_
      obtain rfl := Option.some.inj H
      exact ⟨_, seenF ⟨rfl, rfl, rfl, trivial⟩, hp10⟩
    have H := iff_ h14 H
    refine gon rfl rfl (congrArg Value.bool h14) ?_
    obtain ⟨r18, hx37, H⟩ := bindSome H
    refine s_call (.cons (tmg (!(decide (r7 = 0))) (.string r11) rfl rfl (nt h14)) (.cons rfl .nil)) Try.call17 (selvageref15_has.calls k r11 116 r18 _ hx37) rfl ?_
    rintro v_ w15 ⟨rfl, hb16⟩
    have hp17 := hp10.grow hb16
    refine gon rfl rfl (congrArg Value.bool h14) ?_
    refine sv (v := .bool (!r18)) rfl rfl rfl (e_un (tm rfl rfl) (r_not rfl)) ?_
    refine gon rfl rfl (congrArg Value.bool h14) ?_
    refine sv (v := .bool (!r18)) rfl rfl rfl (e_move (tm rfl rfl)) ?_
    refine s_gp (v := .pointer (some ⟨b1, 1, none⟩)) rfl rfl rfl (beq_t _) (fun g_ => e_fieldAddr (tm rfl rfl) Try.runUnderlying23 rfl Try.sizeOf3 rfl rfl) rfl ?_
    refine s_gp (v := .int .i64 a0.T) rfl rfl rfl (beq_t _) (fun g_ => e_load1 (tmg (!r18) (.pointer (some ⟨b1, 1, none⟩)) rfl rfl g_) Try.isAgg3 (cell_at (hp17.get (i := 0) (j := 0) rfl rfl) rfl)) rfl ?_
    refine s_gp (v := .bool (!decide (a0.T = 0))) rfl rfl rfl (beq_t _) (fun g_ => e_bin (tmg (!r18) (.int .i64 a0.T) rfl rfl g_) rfl (r_neq rfl)) rfl ?_
    refine gon rfl rfl (congrArg Value.bool h14) ?_
    refine sv (v := .bool ((!r18) && (!decide (a0.T = 0)))) rfl rfl rfl (e_pick (v1 := .bool (!decide (a0.T = 0))) (v2 := .bool false) (tm rfl rfl) (fun h_ => tmg (!r18) (.bool (!decide (a0.T = 0))) rfl rfl h_) (fun _ => rfl) (pk_and (!r18))) ?_
    refine sv (v := .bool ((!r18) && (!decide (a0.T = 0)))) rfl rfl rfl (e_pick (v1 := .bool ((!r18) && (!decide (a0.T = 0)))) (v2 := .bool ((!r18) && (!decide (a0.T = 0)))) (tm rfl rfl) (fun h_ => by rw [h14] at h_; cases h_) (fun _ => (tm rfl rfl)) (by rw [h14]; rfl)) ?_
    refine sv (v := .bool ((!r18) && (!decide (a0.T = 0)))) rfl rfl rfl (e_move (tm rfl rfl)) ?_
    refine s_gp (v := .string r11) rfl rfl rfl (beq_f _) (fun g_ => e_move (tm rfl rfl)) rfl ?_
    rcases Bool.eq_false_or_eq_true ((!r18) && (!decide (a0.T = 0))) with h19 | h19
    · have H := ift h19 H
      refine goff rfl rfl (congrArg Value.bool h19) rfl ?_
      refine goff rfl rfl (congrArg Value.bool h19) rfl ?_
      refine goff rfl rfl (congrArg Value.bool h19) rfl ?_
      refine goffu rfl rfl rfl rfl ?_
      refine goffu rfl rfl rfl rfl ?_
      refine goffu rfl rfl rfl rfl ?_
      refine goff rfl rfl (congrArg Value.bool h19) rfl ?_
      refine sv (v := .bool true) rfl rfl rfl (e_pick (v1 := .bool true) (v2 := .bool true) (tm rfl rfl) (fun _ => rfl) (fun h_ => by rw [h19] at h_; cases h_) (by rw [h19]; rfl)) ?_
      refine sv (v := .bool true) rfl rfl rfl (e_move (tm rfl rfl)) ?_
      refine goff rfl rfl rfl rfl ?_
      refine goff rfl rfl rfl rfl ?_
      refine goff rfl rfl rfl rfl ?_
      refine goff rfl rfl rfl rfl ?_
      refine goffu rfl rfl rfl rfl ?_
      refine goffu rfl rfl rfl rfl ?_
      refine goffu rfl rfl rfl rfl ?_
      refine goff rfl rfl rfl rfl ?_
      refine sv (v := .bool true) rfl rfl rfl (e_pick (v1 := .bool true) (v2 := .bool true) (tm rfl rfl) (fun _ => rfl) (fun h_ => by cases h_) rfl) ?_
      refine sv (v := .bool true) rfl rfl rfl (e_move (tm rfl rfl)) ?_
      refine goff rfl rfl rfl rfl ?_
      refine goff rfl rfl rfl rfl ?_
      refine goff rfl rfl rfl rfl ?_
      refine goff rfl rfl rfl rfl ?_
      refine goffu rfl rfl rfl rfl ?_
      refine goffu rfl rfl rfl rfl ?_
      refine goffu rfl rfl rfl rfl ?_
      refine goff rfl rfl rfl rfl ?_
      refine sv (v := .bool true) rfl rfl rfl (e_pick (v1 := .bool true) (v2 := .bool true) (tm rfl rfl) (fun _ => rfl) (fun h_ => by cases h_) rfl) ?_
      refine k_nil ?_
      obtain rfl := Option.some.inj H
      exact ⟨_, seenF ⟨rfl, rfl, rfl, trivial⟩, hp17⟩
    have H := iff_ h19 H
    refine gon rfl rfl (congrArg Value.bool h19) ?_
    obtain ⟨r23, hx36, H⟩ := bindSome H
    refine s_call (.cons (tmg (!((!r18) && (!decide (a0.T = 0)))) (.string r11) rfl rfl (nt h19)) (.cons rfl .nil)) Try.call17 (selvageref15_has.calls k r11 97 r23 _ hx36) rfl ?_
    rintro v_ w20 ⟨rfl, hb21⟩
    have hp22 := hp17.grow hb21
    refine gon rfl rfl (congrArg Value.bool h19) ?_
    refine sv (v := .bool (!r23)) rfl rfl rfl (e_un (tm rfl rfl) (r_not rfl)) ?_
    refine gon rfl rfl (congrArg Value.bool h19) ?_
    refine sv (v := .bool (!r23)) rfl rfl rfl (e_move (tm rfl rfl)) ?_
    refine s_gp (v := .pointer (some ⟨b1, 2, none⟩)) rfl rfl rfl (beq_t _) (fun g_ => e_fieldAddr (tm rfl rfl) Try.runUnderlying23 rfl Try.sizeOf3 rfl rfl) rfl ?_
    refine s_gp (v := .int .i64 a0.A) rfl rfl rfl (beq_t _) (fun g_ => e_load1 (tmg (!r23) (.pointer (some ⟨b1, 2, none⟩)) rfl rfl g_) Try.isAgg3 (cell_at (hp22.get (i := 0) (j := 0) rfl rfl) rfl)) rfl ?_
    refine s_gp (v := .bool (!decide (a0.A = 0))) rfl rfl rfl (beq_t _) (fun g_ => e_bin (tmg (!r23) (.int .i64 a0.A) rfl rfl g_) rfl (r_neq rfl)) rfl ?_
    refine gon rfl rfl (congrArg Value.bool h19) ?_
    refine sv (v := .bool ((!r23) && (!decide (a0.A = 0)))) rfl rfl rfl (e_pick (v1 := .bool (!decide (a0.A = 0))) (v2 := .bool false) (tm rfl rfl) (fun h_ => tmg (!r23) (.bool (!decide (a0.A = 0))) rfl rfl h_) (fun _ => rfl) (pk_and (!r23))) ?_
    refine sv (v := .bool ((!r23) && (!decide (a0.A = 0)))) rfl rfl rfl (e_pick (v1 := .bool ((!r23) && (!decide (a0.A = 0)))) (v2 := .bool ((!r23) && (!decide (a0.A = 0)))) (tm rfl rfl) (fun h_ => by rw [h19] at h_; cases h_) (fun _ => (tm rfl rfl)) (by rw [h19]; rfl)) ?_
    refine sv (v := .bool ((!r23) && (!decide (a0.A = 0)))) rfl rfl rfl (e_move (tm rfl rfl)) ?_
    refine s_gp (v := .string r11) rfl rfl rfl (beq_f _) (fun g_ => e_move (tm rfl rfl)) rfl ?_
    rcases Bool.eq_false_or_eq_true ((!r23) && (!decide (a0.A = 0))) with h24 | h24
    · have H := ift h24 H
      refine goff rfl rfl (congrArg Value.bool h24) rfl ?_
      refine goff rfl rfl (congrArg Value.bool h24) rfl ?_
      refine goff rfl rfl (congrArg Value.bool h24) rfl ?_
      refine goffu rfl rfl rfl rfl ?_
      refine goffu rfl rfl rfl rfl ?_
      refine goffu rfl rfl rfl rfl ?_
      refine goff rfl rfl (congrArg Value.bool h24) rfl ?_
      refine sv (v := .bool true) rfl rfl rfl (e_pick (v1 := .bool true) (v2 := .bool true) (tm rfl rfl) (fun _ => rfl) (fun h_ => by rw [h24] at h_; cases h_) (by rw [h24]; rfl)) ?_
      refine sv (v := .bool true) rfl rfl rfl (e_move (tm rfl rfl)) ?_
      refine goff rfl rfl rfl rfl ?_
      refine goff rfl rfl rfl rfl ?_
      refine goff rfl rfl rfl rfl ?_
      refine goff rfl rfl rfl rfl ?_
      refine goffu rfl rfl rfl rfl ?_
      refine goffu rfl rfl rfl rfl ?_
      refine goffu rfl rfl rfl rfl ?_
      refine goff rfl rfl rfl rfl ?_
      refine sv (v := .bool true) rfl rfl rfl (e_pick (v1 := .bool true) (v2 := .bool true) (tm rfl rfl) (fun _ => rfl) (fun h_ => by cases h_) rfl) ?_
      refine k_nil ?_
      obtain rfl := Option.some.inj H
      exact ⟨_, seenF ⟨rfl, rfl, rfl, trivial⟩, hp22⟩
    have H := iff_ h24 H
    refine gon rfl rfl (congrArg Value.bool h24) ?_
    obtain ⟨r28, hx35, H⟩ := bindSome H
    refine s_call (.cons (tmg (!((!r23) && (!decide (a0.A = 0)))) (.string r11) rfl rfl (nt h24)) (.cons rfl .nil)) Try.call17 (selvageref15_has.calls k r11 98 r28 _ hx35) rfl ?_
    rintro v_ w25 ⟨rfl, hb26⟩
    have hp27 := hp22.grow hb26
    refine gon rfl rfl (congrArg Value.bool h24) ?_
    refine sv (v := .bool (!r28)) rfl rfl rfl (e_un (tm rfl rfl) (r_not rfl)) ?_
    refine gon rfl rfl (congrArg Value.bool h24) ?_
    refine sv (v := .bool (!r28)) rfl rfl rfl (e_move (tm rfl rfl)) ?_
    refine s_gp (v := .pointer (some ⟨b1, 3, none⟩)) rfl rfl rfl (beq_t _) (fun g_ => e_fieldAddr (tm rfl rfl) Try.runUnderlying23 rfl Try.sizeOf3 rfl rfl) rfl ?_
    refine s_gp (v := .int .i64 a0.B) rfl rfl rfl (beq_t _) (fun g_ => e_load1 (tmg (!r28) (.pointer (some ⟨b1, 3, none⟩)) rfl rfl g_) Try.isAgg3 (cell_at (hp27.get (i := 0) (j := 0) rfl rfl) rfl)) rfl ?_
    refine s_gp (v := .bool (!decide (a0.B = 0))) rfl rfl rfl (beq_t _) (fun g_ => e_bin (tmg (!r28) (.int .i64 a0.B) rfl rfl g_) rfl (r_neq rfl)) rfl ?_
    refine gon rfl rfl (congrArg Value.bool h24) ?_
    refine sv (v := .bool ((!r28) && (!decide (a0.B = 0)))) rfl rfl rfl (e_pick (v1 := .bool (!decide (a0.B = 0))) (v2 := .bool false) (tm rfl rfl) (fun h_ => tmg (!r28) (.bool (!decide (a0.B = 0))) rfl rfl h_) (fun _ => rfl) (pk_and (!r28))) ?_
    refine sv (v := .bool ((!r28) && (!decide (a0.B = 0)))) rfl rfl rfl (e_pick (v1 := .bool ((!r28) && (!decide (a0.B = 0)))) (v2 := .bool ((!r28) && (!decide (a0.B = 0)))) (tm rfl rfl) (fun h_ => by rw [h24] at h_; cases h_) (fun _ => (tm rfl rfl)) (by rw [h24]; rfl)) ?_
    refine sv (v := .bool ((!r28) && (!decide (a0.B = 0)))) rfl rfl rfl (e_move (tm rfl rfl)) ?_
    refine s_gp (v := .string r11) rfl rfl rfl (beq_f _) (fun g_ => e_move (tm rfl rfl)) rfl ?_
    rcases Bool.eq_false_or_eq_true ((!r28) && (!decide (a0.B = 0))) with h29 | h29
    · have H := ift h29 H
      refine goff rfl rfl (congrArg Value.bool h29) rfl ?_
      refine goff rfl rfl (congrArg Value.bool h29) rfl ?_
      refine goff rfl rfl (congrArg Value.bool h29) rfl ?_
      refine goffu rfl rfl rfl rfl ?_
      refine goffu rfl rfl rfl rfl ?_
      refine goffu rfl rfl rfl rfl ?_
      refine goff rfl rfl (congrArg Value.bool h29) rfl ?_
      refine sv (v := .bool true) rfl rfl rfl (e_pick (v1 := .bool true) (v2 := .bool true) (tm rfl rfl) (fun _ => rfl) (fun h_ => by rw [h29] at h_; cases h_) (by rw [h29]; rfl)) ?_
      refine k_nil ?_
      obtain rfl := Option.some.inj H
      exact ⟨_, seenF ⟨rfl, rfl, rfl, trivial⟩, hp27⟩
    have H := iff_ h29 H
    refine gon rfl rfl (congrArg Value.bool h29) ?_
    obtain ⟨r33, hx34, H⟩ := bindSome H
    refine s_call (.cons (tmg (!((!r28) && (!decide (a0.B = 0)))) (.string r11) rfl rfl (nt h29)) (.cons rfl .nil)) Try.call17 (selvageref15_has.calls k r11 105 r33 _ hx34) rfl ?_
    rintro v_ w30 ⟨rfl, hb31⟩
    have hp32 := hp27.grow hb31
    refine gon rfl rfl (congrArg Value.bool h29) ?_
    refine sv (v := .bool (!r33)) rfl rfl rfl (e_un (tm rfl rfl) (r_not rfl)) ?_
    refine gon rfl rfl (congrArg Value.bool h29) ?_
    refine sv (v := .bool (!r33)) rfl rfl rfl (e_move (tm rfl rfl)) ?_
    refine s_gp (v := .pointer (some ⟨b1, 4, none⟩)) rfl rfl rfl (beq_t _) (fun g_ => e_fieldAddr (tm rfl rfl) Try.runUnderlying23 rfl Try.sizeOf3 rfl rfl) rfl ?_
    refine s_gp (v := .int .i64 a0.Imm) rfl rfl rfl (beq_t _) (fun g_ => e_load1 (tmg (!r33) (.pointer (some ⟨b1, 4, none⟩)) rfl rfl g_) Try.isAgg3 (cell_at (hp32.get (i := 0) (j := 0) rfl rfl) rfl)) rfl ?_
    refine s_gp (v := .bool (!decide (a0.Imm = 0))) rfl rfl rfl (beq_t _) (fun g_ => e_bin (tmg (!r33) (.int .i64 a0.Imm) rfl rfl g_) rfl (r_neq rfl)) rfl ?_
    refine gon rfl rfl (congrArg Value.bool h29) ?_
    refine sv (v := .bool ((!r33) && (!decide (a0.Imm = 0)))) rfl rfl rfl (e_pick (v1 := .bool (!decide (a0.Imm = 0))) (v2 := .bool false) (tm rfl rfl) (fun h_ => tmg (!r33) (.bool (!decide (a0.Imm = 0))) rfl rfl h_) (fun _ => rfl) (pk_and (!r33))) ?_
    refine sv (v := .bool ((!r33) && (!decide (a0.Imm = 0)))) rfl rfl rfl (e_pick (v1 := .bool ((!r33) && (!decide (a0.Imm = 0)))) (v2 := .bool ((!r33) && (!decide (a0.Imm = 0)))) (tm rfl rfl) (fun h_ => by rw [h29] at h_; cases h_) (fun _ => (tm rfl rfl)) (by rw [h29]; rfl)) ?_
    refine k_nil ?_
    obtain rfl := Option.some.inj H
    exact ⟨_, seenF ⟨rfl, rfl, rfl, trivial⟩, hp32⟩
  clear H
  rintro a w' ⟨σ41, rfl, hp39⟩
  have H := G13
  refine k_if (tm rfl rfl) (fun h42 => ?_) (fun h42 => ?_)
  · have H := ift h42 H
    refine k_seq ?_
    refine k_region ?_
    refine sv (v := .int .u32 0) rfl rfl rfl (e_assign rfl) ?_
    refine sv (v := .int .i64 3) rfl rfl rfl (e_assign rfl) ?_
    refine k_nil ?_
    refine k_ret ?_
    obtain rfl := Option.some.inj H
    exact k_end rfl (.tmp rfl rfl (.tmp rfl rfl .nil)) rfl ⟨rfl, hp39.below⟩
  have H := iff_ h42 H
  refine k_skip ?_
  refine k_seq ?_
  refine k_region ?_
  refine sv (v := .int .i64 r7) rfl rfl rfl (e_move (tm rfl rfl)) ?_
  refine s_call (.cons (tm rfl rfl) .nil) Try.call18 (selvageref15_bounds.calls r7 _) rfl ?_
  rintro v_ w43 ⟨rfl, hb44⟩
  have hp45 := hp39.grow hb44
  refine sv (v := .tuple #[.int .i64 ((selvageref15_bounds.m r7).1), .int .i64 ((selvageref15_bounds.m r7).2.1), .int .i64 ((selvageref15_bounds.m r7).2.2)]) rfl rfl rfl (e_move (tm rfl rfl)) ?_
  refine sv (v := .int .i64 ((selvageref15_bounds.m r7).1)) rfl rfl rfl (e_extract (tm rfl rfl) rfl) ?_
  refine sv (v := .int .i64 ((selvageref15_bounds.m r7).2.1)) rfl rfl rfl (e_extract (tm rfl rfl) rfl) ?_
  refine sv (v := .int .i64 ((selvageref15_bounds.m r7).2.2)) rfl rfl rfl (e_extract (tm rfl rfl) rfl) ?_
  refine sv (v := .int .i64 ((selvageref15_bounds.m r7).1)) rfl rfl rfl (e_assign (tm rfl rfl)) ?_
  refine sv (v := .int .i64 ((selvageref15_bounds.m r7).2.1)) rfl rfl rfl (e_assign (tm rfl rfl)) ?_
  refine sv (v := .int .i64 ((selvageref15_bounds.m r7).2.2)) rfl rfl rfl (e_assign (tm rfl rfl)) ?_
  refine k_nil ?_
  refine k_seq ?_
  refine k_region ?_
  refine sv (v := .int .i64 31) rfl rfl rfl (e_assign rfl) ?_
  refine k_nil ?_
  refine k_seq ?_
  refine k_seq ?_
  refine k_region ?_
  refine sv (v := .int .i64 r7) rfl rfl rfl (e_move (tm rfl rfl)) ?_
  refine sv (v := .bool (decide (r7 = 8))) rfl rfl rfl (e_bin (tm rfl rfl) rfl (r_eql rfl)) ?_
  refine k_nil ?_
  obtain ⟨o46, H, G47⟩ := bindSome H
  refine k_cut (fun a w' => ∃ (σ2160 : Nat → Value), a = st 308 [(1, .pointer (some ⟨b1, 0, none⟩)), (4, .int .i64 r7), (6, .int .i64 ((selvageref15_bounds.m r7).1)), (7, .int .i64 ((selvageref15_bounds.m r7).2.1)), (8, .int .i64 ((selvageref15_bounds.m r7).2.2)), (9, .int .i64 o46)] σ2160 [] ∧ Hp0 w w' [[(b1, .cells #[.int .i64 a0.Op, .int .i64 a0.T, .int .i64 a0.A, .int .i64 a0.B, .int .i64 a0.Imm] 23 (0, 0))]]) ?_ ?_
  · refine k_if (tm rfl rfl) (fun h48 => ?_) (fun h48 => ?_)
    · have H := ift h48 H
      refine k_region ?_
      refine sv (v := .int .i64 3) rfl rfl rfl (e_assign rfl) ?_
      refine k_nil ?_
      obtain rfl := Option.some.inj H
      exact ⟨_, seenF ⟨rfl, rfl, rfl, rfl, rfl, rfl, trivial⟩, hp45⟩
    have H := iff_ h48 H
    refine k_skip ?_
    obtain rfl := Option.some.inj H
    exact ⟨_, seenF ⟨rfl, rfl, rfl, rfl, rfl, rfl, trivial⟩, hp45⟩
  clear H
  rintro a w' ⟨σ52, rfl, hp50⟩
  have H := G47
  refine k_seq ?_
  refine k_seq ?_
  obtain ⟨o53, H, G54⟩ := bindSome H
  refine k_cut (fun a w' => ∃ (σ2159 : Nat → Value), a = st 308 [(1, .pointer (some ⟨b1, 0, none⟩)), (4, .int .i64 r7), (115, .bool o53)] σ2159 [] ∧ Hp0 w w' [[(b1, .cells #[.int .i64 a0.Op, .int .i64 a0.T, .int .i64 a0.A, .int .i64 a0.B, .int .i64 a0.Imm] 23 (0, 0))]]) ?_ ?_
  · refine k_region ?_
    refine sv (v := .pointer (some ⟨b1, 1, none⟩)) rfl rfl rfl (e_fieldAddr (tm rfl rfl) Try.runUnderlying23 rfl Try.sizeOf3 rfl rfl) ?_
    refine sv (v := .int .i64 a0.T) rfl rfl rfl (e_load1 (tm rfl rfl) Try.isAgg3 (cell_at (hp50.get (i := 0) (j := 0) rfl rfl) rfl)) ?_
    refine sv (v := .bool (decide (a0.T < 0))) rfl rfl rfl (e_bin (tm rfl rfl) rfl (r_lss rfl)) ?_
    refine sv (v := .bool (decide (a0.T < 0))) rfl rfl rfl (e_move (tm rfl rfl)) ?_
    refine s_gp (v := .pointer (some ⟨b1, 1, none⟩)) rfl rfl rfl (beq_f _) (fun g_ => e_fieldAddr (tm rfl rfl) Try.runUnderlying23 rfl Try.sizeOf3 rfl rfl) rfl ?_
    refine s_gp (v := .int .i64 a0.T) rfl rfl rfl (beq_f _) (fun g_ => e_load1 (tmg (!(decide (a0.T < 0))) (.pointer (some ⟨b1, 1, none⟩)) rfl rfl g_) Try.isAgg3 (cell_at (hp50.get (i := 0) (j := 0) rfl rfl) rfl)) rfl ?_
    refine s_gp (v := .int .i64 o46) rfl rfl rfl (beq_f _) (fun g_ => e_move (tm rfl rfl)) rfl ?_
    refine s_gp (v := .bool (decide (a0.T > o46))) rfl rfl rfl (beq_f _) (fun g_ => e_bin (tmg (!(decide (a0.T < 0))) (.int .i64 a0.T) rfl rfl g_) (tmg (!(decide (a0.T < 0))) (.int .i64 o46) rfl rfl g_) (r_gtr rfl)) rfl ?_
    refine sv (v := .bool ((decide (a0.T < 0)) || (decide (a0.T > o46)))) rfl rfl rfl (e_pick (v1 := .bool true) (v2 := .bool (decide (a0.T > o46))) (tm rfl rfl) (fun _ => rfl) (fun h_ => tmg (!(decide (a0.T < 0))) (.bool (decide (a0.T > o46))) rfl rfl (nt h_)) (pk_or (decide (a0.T < 0)))) ?_
    refine sv (v := .bool ((decide (a0.T < 0)) || (decide (a0.T > o46)))) rfl rfl rfl (e_move (tm rfl rfl)) ?_
    refine s_gp (v := .pointer (some ⟨b1, 2, none⟩)) rfl rfl rfl (beq_f _) (fun g_ => e_fieldAddr (tm rfl rfl) Try.runUnderlying23 rfl Try.sizeOf3 rfl rfl) rfl ?_
    refine s_gp (v := .int .i64 a0.A) rfl rfl rfl (beq_f _) (fun g_ => e_load1 (tmg (!((decide (a0.T < 0)) || (decide (a0.T > o46)))) (.pointer (some ⟨b1, 2, none⟩)) rfl rfl g_) Try.isAgg3 (cell_at (hp50.get (i := 0) (j := 0) rfl rfl) rfl)) rfl ?_
    refine s_gp (v := .bool (decide (a0.A < 0))) rfl rfl rfl (beq_f _) (fun g_ => e_bin (tmg (!((decide (a0.T < 0)) || (decide (a0.T > o46)))) (.int .i64 a0.A) rfl rfl g_) rfl (r_lss rfl)) rfl ?_
    refine sv (v := .bool (((decide (a0.T < 0)) || (decide (a0.T > o46))) || (decide (a0.A < 0)))) rfl rfl rfl (e_pick (v1 := .bool true) (v2 := .bool (decide (a0.A < 0))) (tm rfl rfl) (fun _ => rfl) (fun h_ => tmg (!((decide (a0.T < 0)) || (decide (a0.T > o46)))) (.bool (decide (a0.A < 0))) rfl rfl (nt h_)) (pk_or ((decide (a0.T < 0)) || (decide (a0.T > o46))))) ?_
    refine sv (v := .bool (((decide (a0.T < 0)) || (decide (a0.T > o46))) || (decide (a0.A < 0)))) rfl rfl rfl (e_move (tm rfl rfl)) ?_
    refine s_gp (v := .pointer (some ⟨b1, 2, none⟩)) rfl rfl rfl (beq_f _) (fun g_ => e_fieldAddr (tm rfl rfl) Try.runUnderlying23 rfl Try.sizeOf3 rfl rfl) rfl ?_
    refine s_gp (v := .int .i64 a0.A) rfl rfl rfl (beq_f _) (fun g_ => e_load1 (tmg (!(((decide (a0.T < 0)) || (decide (a0.T > o46))) || (decide (a0.A < 0)))) (.pointer (some ⟨b1, 2, none⟩)) rfl rfl g_) Try.isAgg3 (cell_at (hp50.get (i := 0) (j := 0) rfl rfl) rfl)) rfl ?_
    refine s_gp (v := .bool (decide (a0.A > 31))) rfl rfl rfl (beq_f _) (fun g_ => e_bin (tmg (!(((decide (a0.T < 0)) || (decide (a0.T > o46))) || (decide (a0.A < 0)))) (.int .i64 a0.A) rfl rfl g_) rfl (r_gtr rfl)) rfl ?_
    refine sv (v := .bool ((((decide (a0.T < 0)) || (decide (a0.T > o46))) || (decide (a0.A < 0))) || (decide (a0.A > 31)))) rfl rfl rfl (e_pick (v1 := .bool true) (v2 := .bool (decide (a0.A > 31))) (tm rfl rfl) (fun _ => rfl) (fun h_ => tmg (!(((decide (a0.T < 0)) || (decide (a0.T > o46))) || (decide (a0.A < 0)))) (.bool (decide (a0.A > 31))) rfl rfl (nt h_)) (pk_or (((decide (a0.T < 0)) || (decide (a0.T > o46))) || (decide (a0.A < 0))))) ?_
    refine sv (v := .bool ((((decide (a0.T < 0)) || (decide (a0.T > o46))) || (decide (a0.A < 0))) || (decide (a0.A > 31)))) rfl rfl rfl (e_move (tm rfl rfl)) ?_
    refine s_gp (v := .pointer (some ⟨b1, 3, none⟩)) rfl rfl rfl (beq_f _) (fun g_ => e_fieldAddr (tm rfl rfl) Try.runUnderlying23 rfl Try.sizeOf3 rfl rfl) rfl ?_
    refine s_gp (v := .int .i64 a0.B) rfl rfl rfl (beq_f _) (fun g_ => e_load1 (tmg (!((((decide (a0.T < 0)) || (decide (a0.T > o46))) || (decide (a0.A < 0))) || (decide (a0.A > 31)))) (.pointer (some ⟨b1, 3, none⟩)) rfl rfl g_) Try.isAgg3 (cell_at (hp50.get (i := 0) (j := 0) rfl rfl) rfl)) rfl ?_
    refine s_gp (v := .bool (decide (a0.B < 0))) rfl rfl rfl (beq_f _) (fun g_ => e_bin (tmg (!((((decide (a0.T < 0)) || (decide (a0.T > o46))) || (decide (a0.A < 0))) || (decide (a0.A > 31)))) (.int .i64 a0.B) rfl rfl g_) rfl (r_lss rfl)) rfl ?_
    refine sv (v := .bool (((((decide (a0.T < 0)) || (decide (a0.T > o46))) || (decide (a0.A < 0))) || (decide (a0.A > 31))) || (decide (a0.B < 0)))) rfl rfl rfl (e_pick (v1 := .bool true) (v2 := .bool (decide (a0.B < 0))) (tm rfl rfl) (fun _ => rfl) (fun h_ => tmg (!((((decide (a0.T < 0)) || (decide (a0.T > o46))) || (decide (a0.A < 0))) || (decide (a0.A > 31)))) (.bool (decide (a0.B < 0))) rfl rfl (nt h_)) (pk_or ((((decide (a0.T < 0)) || (decide (a0.T > o46))) || (decide (a0.A < 0))) || (decide (a0.A > 31))))) ?_
    refine sv (v := .bool (((((decide (a0.T < 0)) || (decide (a0.T > o46))) || (decide (a0.A < 0))) || (decide (a0.A > 31))) || (decide (a0.B < 0)))) rfl rfl rfl (e_move (tm rfl rfl)) ?_
    refine s_gp (v := .pointer (some ⟨b1, 3, none⟩)) rfl rfl rfl (beq_f _) (fun g_ => e_fieldAddr (tm rfl rfl) Try.runUnderlying23 rfl Try.sizeOf3 rfl rfl) rfl ?_
    refine s_gp (v := .int .i64 a0.B) rfl rfl rfl (beq_f _) (fun g_ => e_load1 (tmg (!(((((decide (a0.T < 0)) || (decide (a0.T > o46))) || (decide (a0.A < 0))) || (decide (a0.A > 31))) || (decide (a0.B < 0)))) (.pointer (some ⟨b1, 3, none⟩)) rfl rfl g_) Try.isAgg3 (cell_at (hp50.get (i := 0) (j := 0) rfl rfl) rfl)) rfl ?_
    refine s_gp (v := .bool (decide (a0.B > 31))) rfl rfl rfl (beq_f _) (fun g_ => e_bin (tmg (!(((((decide (a0.T < 0)) || (decide (a0.T > o46))) || (decide (a0.A < 0))) || (decide (a0.A > 31))) || (decide (a0.B < 0)))) (.int .i64 a0.B) rfl rfl g_) rfl (r_gtr rfl)) rfl ?_
    refine sv (v := .bool ((((((decide (a0.T < 0)) || (decide (a0.T > o46))) || (decide (a0.A < 0))) || (decide (a0.A > 31))) || (decide (a0.B < 0))) || (decide (a0.B > 31)))) rfl rfl rfl (e_pick (v1 := .bool true) (v2 := .bool (decide (a0.B > 31))) (tm rfl rfl) (fun _ => rfl) (fun h_ => tmg (!(((((decide (a0.T < 0)) || (decide (a0.T > o46))) || (decide (a0.A < 0))) || (decide (a0.A > 31))) || (decide (a0.B < 0)))) (.bool (decide (a0.B > 31))) rfl rfl (nt h_)) (pk_or (((((decide (a0.T < 0)) || (decide (a0.T > o46))) || (decide (a0.A < 0))) || (decide (a0.A > 31))) || (decide (a0.B < 0))))) ?_
    refine sv (v := .bool ((((((decide (a0.T < 0)) || (decide (a0.T > o46))) || (decide (a0.A < 0))) || (decide (a0.A > 31))) || (decide (a0.B < 0))) || (decide (a0.B > 31)))) rfl rfl rfl (e_move (tm rfl rfl)) ?_
    refine s_gp (v := .pointer (some ⟨b1, 4, none⟩)) rfl rfl rfl (beq_f _) (fun g_ => e_fieldAddr (tm rfl rfl) Try.runUnderlying23 rfl Try.sizeOf3 rfl rfl) rfl ?_
    refine s_gp (v := .int .i64 a0.Imm) rfl rfl rfl (beq_f _) (fun g_ => e_load1 (tmg (!((((((decide (a0.T < 0)) || (decide (a0.T > o46))) || (decide (a0.A < 0))) || (decide (a0.A > 31))) || (decide (a0.B < 0))) || (decide (a0.B > 31)))) (.pointer (some ⟨b1, 4, none⟩)) rfl rfl g_) Try.isAgg3 (cell_at (hp50.get (i := 0) (j := 0) rfl rfl) rfl)) rfl ?_
    refine s_gp (v := .int .i64 ((selvageref15_bounds.m r7).1)) rfl rfl rfl (beq_f _) (fun g_ => e_move (tm rfl rfl)) rfl ?_
    refine s_gp (v := .bool (decide (a0.Imm < ((selvageref15_bounds.m r7).1)))) rfl rfl rfl (beq_f _) (fun g_ => e_bin (tmg (!((((((decide (a0.T < 0)) || (decide (a0.T > o46))) || (decide (a0.A < 0))) || (decide (a0.A > 31))) || (decide (a0.B < 0))) || (decide (a0.B > 31)))) (.int .i64 a0.Imm) rfl rfl g_) (tmg (!((((((decide (a0.T < 0)) || (decide (a0.T > o46))) || (decide (a0.A < 0))) || (decide (a0.A > 31))) || (decide (a0.B < 0))) || (decide (a0.B > 31)))) (.int .i64 ((selvageref15_bounds.m r7).1)) rfl rfl g_) (r_lss rfl)) rfl ?_
    refine sv (v := .bool (((((((decide (a0.T < 0)) || (decide (a0.T > o46))) || (decide (a0.A < 0))) || (decide (a0.A > 31))) || (decide (a0.B < 0))) || (decide (a0.B > 31))) || (decide (a0.Imm < ((selvageref15_bounds.m r7).1))))) rfl rfl rfl (e_pick (v1 := .bool true) (v2 := .bool (decide (a0.Imm < ((selvageref15_bounds.m r7).1)))) (tm rfl rfl) (fun _ => rfl) (fun h_ => tmg (!((((((decide (a0.T < 0)) || (decide (a0.T > o46))) || (decide (a0.A < 0))) || (decide (a0.A > 31))) || (decide (a0.B < 0))) || (decide (a0.B > 31)))) (.bool (decide (a0.Imm < ((selvageref15_bounds.m r7).1)))) rfl rfl (nt h_)) (pk_or ((((((decide (a0.T < 0)) || (decide (a0.T > o46))) || (decide (a0.A < 0))) || (decide (a0.A > 31))) || (decide (a0.B < 0))) || (decide (a0.B > 31))))) ?_
    refine sv (v := .bool (((((((decide (a0.T < 0)) || (decide (a0.T > o46))) || (decide (a0.A < 0))) || (decide (a0.A > 31))) || (decide (a0.B < 0))) || (decide (a0.B > 31))) || (decide (a0.Imm < ((selvageref15_bounds.m r7).1))))) rfl rfl rfl (e_move (tm rfl rfl)) ?_
    refine s_gp (v := .pointer (some ⟨b1, 4, none⟩)) rfl rfl rfl (beq_f _) (fun g_ => e_fieldAddr (tm rfl rfl) Try.runUnderlying23 rfl Try.sizeOf3 rfl rfl) rfl ?_
    refine s_gp (v := .int .i64 a0.Imm) rfl rfl rfl (beq_f _) (fun g_ => e_load1 (tmg (!(((((((decide (a0.T < 0)) || (decide (a0.T > o46))) || (decide (a0.A < 0))) || (decide (a0.A > 31))) || (decide (a0.B < 0))) || (decide (a0.B > 31))) || (decide (a0.Imm < ((selvageref15_bounds.m r7).1))))) (.pointer (some ⟨b1, 4, none⟩)) rfl rfl g_) Try.isAgg3 (cell_at (hp50.get (i := 0) (j := 0) rfl rfl) rfl)) rfl ?_
    refine s_gp (v := .int .i64 ((selvageref15_bounds.m r7).2.1)) rfl rfl rfl (beq_f _) (fun g_ => e_move (tm rfl rfl)) rfl ?_
    refine s_gp (v := .bool (decide (a0.Imm > ((selvageref15_bounds.m r7).2.1)))) rfl rfl rfl (beq_f _) (fun g_ => e_bin (tmg (!(((((((decide (a0.T < 0)) || (decide (a0.T > o46))) || (decide (a0.A < 0))) || (decide (a0.A > 31))) || (decide (a0.B < 0))) || (decide (a0.B > 31))) || (decide (a0.Imm < ((selvageref15_bounds.m r7).1))))) (.int .i64 a0.Imm) rfl rfl g_) (tmg (!(((((((decide (a0.T < 0)) || (decide (a0.T > o46))) || (decide (a0.A < 0))) || (decide (a0.A > 31))) || (decide (a0.B < 0))) || (decide (a0.B > 31))) || (decide (a0.Imm < ((selvageref15_bounds.m r7).1))))) (.int .i64 ((selvageref15_bounds.m r7).2.1)) rfl rfl g_) (r_gtr rfl)) rfl ?_
    refine sv (v := .bool ((((((((decide (a0.T < 0)) || (decide (a0.T > o46))) || (decide (a0.A < 0))) || (decide (a0.A > 31))) || (decide (a0.B < 0))) || (decide (a0.B > 31))) || (decide (a0.Imm < ((selvageref15_bounds.m r7).1)))) || (decide (a0.Imm > ((selvageref15_bounds.m r7).2.1))))) rfl rfl rfl (e_pick (v1 := .bool true) (v2 := .bool (decide (a0.Imm > ((selvageref15_bounds.m r7).2.1)))) (tm rfl rfl) (fun _ => rfl) (fun h_ => tmg (!(((((((decide (a0.T < 0)) || (decide (a0.T > o46))) || (decide (a0.A < 0))) || (decide (a0.A > 31))) || (decide (a0.B < 0))) || (decide (a0.B > 31))) || (decide (a0.Imm < ((selvageref15_bounds.m r7).1))))) (.bool (decide (a0.Imm > ((selvageref15_bounds.m r7).2.1)))) rfl rfl (nt h_)) (pk_or (((((((decide (a0.T < 0)) || (decide (a0.T > o46))) || (decide (a0.A < 0))) || (decide (a0.A > 31))) || (decide (a0.B < 0))) || (decide (a0.B > 31))) || (decide (a0.Imm < ((selvageref15_bounds.m r7).1)))))) ?_
    refine sv (v := .bool ((((((((decide (a0.T < 0)) || (decide (a0.T > o46))) || (decide (a0.A < 0))) || (decide (a0.A > 31))) || (decide (a0.B < 0))) || (decide (a0.B > 31))) || (decide (a0.Imm < ((selvageref15_bounds.m r7).1)))) || (decide (a0.Imm > ((selvageref15_bounds.m r7).2.1))))) rfl rfl rfl (e_move (tm rfl rfl)) ?_
    refine s_gp (v := .pointer (some ⟨b1, 4, none⟩)) rfl rfl rfl (beq_f _) (fun g_ => e_fieldAddr (tm rfl rfl) Try.runUnderlying23 rfl Try.sizeOf3 rfl rfl) rfl ?_
    refine s_gp (v := .int .i64 a0.Imm) rfl rfl rfl (beq_f _) (fun g_ => e_load1 (tmg (!((((((((decide (a0.T < 0)) || (decide (a0.T > o46))) || (decide (a0.A < 0))) || (decide (a0.A > 31))) || (decide (a0.B < 0))) || (decide (a0.B > 31))) || (decide (a0.Imm < ((selvageref15_bounds.m r7).1)))) || (decide (a0.Imm > ((selvageref15_bounds.m r7).2.1))))) (.pointer (some ⟨b1, 4, none⟩)) rfl rfl g_) Try.isAgg3 (cell_at (hp50.get (i := 0) (j := 0) rfl rfl) rfl)) rfl ?_
    refine s_gp (v := .int .i64 ((selvageref15_bounds.m r7).2.2)) rfl rfl rfl (beq_f _) (fun g_ => e_move (tm rfl rfl)) rfl ?_
    rcases Bool.eq_false_or_eq_true ((((((((decide (a0.T < 0)) || (decide (a0.T > o46))) || (decide (a0.A < 0))) || (decide (a0.A > 31))) || (decide (a0.B < 0))) || (decide (a0.B > 31))) || (decide (a0.Imm < ((selvageref15_bounds.m r7).1)))) || (decide (a0.Imm > ((selvageref15_bounds.m r7).2.1)))) with h55 | h55
    · have H := ift h55 H
      refine goff rfl rfl (congrArg Value.bool h55) rfl ?_
      refine goff rfl rfl (congrArg Value.bool h55) rfl ?_
      refine sv (v := .bool true) rfl rfl rfl (e_pick (v1 := .bool true) (v2 := .bool true) (tm rfl rfl) (fun _ => rfl) (fun h_ => by rw [h55] at h_; cases h_) (by rw [h55]; rfl)) ?_
      refine k_nil ?_
      obtain rfl := Option.some.inj H
      exact ⟨_, seenF ⟨rfl, rfl, rfl, trivial⟩, hp50⟩
    have H := iff_ h55 H
    refine gon rfl rfl (congrArg Value.bool h55) ?_
    obtain ⟨g56, H⟩ := grd H
    refine sv (v := .int .i64 (Int.tmod a0.Imm ((selvageref15_bounds.m r7).2.2))) rfl rfl rfl (e_bin (tmg (!((((((((decide (a0.T < 0)) || (decide (a0.T > o46))) || (decide (a0.A < 0))) || (decide (a0.A > 31))) || (decide (a0.B < 0))) || (decide (a0.B > 31))) || (decide (a0.Imm < ((selvageref15_bounds.m r7).1)))) || (decide (a0.Imm > ((selvageref15_bounds.m r7).2.1))))) (.int .i64 a0.Imm) rfl rfl (nt h55)) (tmg (!((((((((decide (a0.T < 0)) || (decide (a0.T > o46))) || (decide (a0.A < 0))) || (decide (a0.A > 31))) || (decide (a0.B < 0))) || (decide (a0.B > 31))) || (decide (a0.Imm < ((selvageref15_bounds.m r7).1)))) || (decide (a0.Imm > ((selvageref15_bounds.m r7).2.1))))) (.int .i64 ((selvageref15_bounds.m r7).2.2)) rfl rfl (nt h55)) (r_rem g56 rfl)) ?_
    refine gon rfl rfl (congrArg Value.bool h55) ?_
    refine sv (v := .bool (!decide ((Int.tmod a0.Imm ((selvageref15_bounds.m r7).2.2)) = 0))) rfl rfl rfl (e_bin (tm rfl rfl) rfl (r_neq rfl)) ?_
    refine sv (v := .bool (!decide ((Int.tmod a0.Imm ((selvageref15_bounds.m r7).2.2)) = 0))) rfl rfl rfl (e_pick (v1 := .bool (!decide ((Int.tmod a0.Imm ((selvageref15_bounds.m r7).2.2)) = 0))) (v2 := .bool (!decide ((Int.tmod a0.Imm ((selvageref15_bounds.m r7).2.2)) = 0))) (tm rfl rfl) (fun h_ => by rw [h55] at h_; cases h_) (fun _ => (tm rfl rfl)) (by rw [h55]; rfl)) ?_
    refine k_nil ?_
    obtain rfl := Option.some.inj H
    exact ⟨_, seenF ⟨rfl, rfl, rfl, trivial⟩, hp50⟩
  clear H
  rintro a w' ⟨σ60, rfl, hp58⟩
  have H := G54
  refine k_if (tm rfl rfl) (fun h61 => ?_) (fun h61 => ?_)
  · have H := ift h61 H
    refine k_seq ?_
    refine k_region ?_
    refine sv (v := .int .u32 0) rfl rfl rfl (e_assign rfl) ?_
    refine sv (v := .int .i64 2) rfl rfl rfl (e_assign rfl) ?_
    refine k_nil ?_
    refine k_ret ?_
    obtain rfl := Option.some.inj H
    exact k_end rfl (.tmp rfl rfl (.tmp rfl rfl .nil)) rfl ⟨rfl, hp58.below⟩
  have H := iff_ h61 H
  refine k_skip ?_
  refine k_seq ?_
  refine k_region ?_
  refine sv (v := .agg #[.int .u32 0, .int .i64 0]) rfl rfl rfl (e_build (vs := []) .nil (by kernel_rfl)) ?_
  refine s_alloc (zv := .agg #[.int .u32 0, .int .i64 0]) (l := [.int .u32 0, .int .i64 0]) hp58 (by intro w_; kernel_rfl) rfl rfl (fun b62 w63 hp64 => ?_)
  refine s_store (i := 1) (j := 0) (vs := [.int .u32 0, .int .i64 0]) (l' := [.int .u32 0, .int .i64 0]) hp64 (tm rfl rfl) (tm rfl rfl) rfl Try.sizeOf51 rfl rfl rfl rfl rfl rfl (fun w65 hp66 => ?_)
  refine k_nil ?_
  refine k_seq ?_
  refine k_seq ?_
  refine k_region ?_
  refine sv (v := .int .i64 r7) rfl rfl rfl (e_move (tm rfl rfl)) ?_
  refine k_nil ?_
  obtain ⟨o67, H, G68⟩ := bindSome H
  refine k_cut (fun a w' => ∃ (s69 : Int × Int) (σ2158 : Nat → Value) (b2159 : Nat), o67 = Sum.inl s69 ∧ a = st 308 [(10, .pointer (some ⟨b2159, 0, none⟩))] σ2158 [] ∧ Hp0 w w' [[(b2159, .cells #[.int .u32 s69.1, .int .i64 s69.2] 51 (0, 0))]]) ?_ ?_
  · refine k_block ?_
    refine k_seq ?_
    refine k_region ?_
    refine sv (v := .bool (decide (r7 = 1))) rfl rfl rfl (e_bin (tm rfl rfl) rfl (r_eql rfl)) ?_
    refine sv (v := .bool (decide (r7 = 1))) rfl rfl rfl (e_assign (tm rfl rfl)) ?_
    refine k_nil ?_
    refine k_if (tm rfl rfl) (fun h70 => ?_) (fun h70 => ?_)
    · have H := ift h70 H
      obtain ⟨r148, hx149, H⟩ := bindSome H
      obtain ⟨r167, hx168, H⟩ := bindSome H
      obtain ⟨r202, hx203, H⟩ := bindSome H
      obtain ⟨r237, hx238, H⟩ := bindSome H
      obtain ⟨r272, hx273, H⟩ := bindSome H
      refine k_drawn [(1, .pointer (some ⟨b1, 0, none⟩)), (10, .pointer (some ⟨b62, 0, none⟩))] 16 [⟨148, fun v w' => v = .agg #[.int .u32 0, .int .i64 0]⟩, ⟨149, fun v w' => v = .pointer (some ⟨b1, 0, none⟩)⟩, ⟨150, fun v w' => v = .int .i64 a0.Op⟩, ⟨151, fun v w' => ∃ (A_ : Option Addr) (c_ : Nat) (X_ : Rsc), v = .slice A_ (([1, 2] : List Int).length) c_ ∧ Own (intE .i64) 3 A_ c_ ([1, 2] : List Int) X_ ∧ Fresh w65 w' X_⟩, ⟨152, fun v w' => ∃ (A_ : Option Addr) (c_ : Nat) (X_ : Rsc), v = .slice A_ (([14, 15] : List Int).length) c_ ∧ Own (intE .i64) 3 A_ c_ ([14, 15] : List Int) X_ ∧ Fresh w65 w' X_⟩, ⟨153, fun v w' => v = .int .i64 r148⟩, ⟨154, fun v w' => v = .agg #[.int .u32 r167.w, .int .i64 r167.bits]⟩, ⟨155, fun v w' => v = .pointer (some ⟨b1, 1, none⟩)⟩, ⟨156, fun v w' => v = .int .i64 a0.T⟩, ⟨157, fun v w' => v = .agg #[.int .u32 r202.w, .int .i64 r202.bits]⟩, ⟨158, fun v w' => v = .pointer (some ⟨b1, 2, none⟩)⟩, ⟨159, fun v w' => v = .int .i64 a0.A⟩, ⟨160, fun v w' => v = .agg #[.int .u32 r237.w, .int .i64 r237.bits]⟩, ⟨161, fun v w' => v = .pointer (some ⟨b1, 4, none⟩)⟩, ⟨162, fun v w' => v = .int .i64 a0.Imm⟩, ⟨163, fun v w' => v = .agg #[.int .u32 r272.w, .int .i64 r272.bits]⟩] ⟨rfl, rfl, trivial⟩ mixed rfl rfl rfl (by kernel_rfl) (by kernel_rfl) ?_ ?_
      · refine .cons [] rfl rfl rfl (by kernel_rfl) ?_ ?_
        · rintro σ76 w71 hb72 -
          have hp74 := hp66.grow hb72
          have hp75 := Hp.start w71
          refine sv (v := .agg #[.int .u32 0, .int .i64 0]) rfl rfl rfl (e_loadA (tm rfl rfl) Try.isAgg51 Try.sizeOf51 rfl (cells_box (sz := 2) (hp74.get (i := 1) (j := 0) rfl rfl) rfl)) ?_
          refine k_nil ?_
          exact ⟨_, rfl, below_refl _, rfl⟩
        refine .cons [] rfl rfl rfl (by kernel_rfl) ?_ ?_
        · rintro σ82 w77 hb78 -
          have hp80 := hp66.grow hb78
          have hp81 := Hp.start w77
          refine sv (v := .pointer (some ⟨b1, 0, none⟩)) rfl rfl rfl (e_fieldAddr (tm rfl rfl) Try.runUnderlying23 rfl Try.sizeOf3 rfl rfl) ?_
          refine k_nil ?_
          exact ⟨_, rfl, below_refl _, rfl⟩
        refine .cons [1] rfl rfl rfl (by kernel_rfl) ?_ ?_
        · rintro σ88 w83 hb84 ⟨⟨u89, hu90, hv91, f92⟩, -⟩
          have hp86 := hp66.grow hb84
          have hp87 := Hp.start w83
          refine sv (v := .int .i64 a0.Op) rfl rfl rfl (e_load1 (tm rfl f92) Try.isAgg3 (cell_at (hp86.get (i := 0) (j := 0) rfl rfl) rfl)) ?_
          refine k_nil ?_
          exact ⟨_, rfl, below_refl _, rfl⟩
        refine .cons [] rfl rfl rfl (by kernel_rfl) ?_ ?_
        · rintro σ98 w93 hb94 -
          have hp96 := hp66.grow hb94
          have hp97 := Hp.start w93
          refine s_buildSlice (zv := .int .i64 0) (E := (intE .i64)) (vs := [(0, .int .i64 1), (1, .int .i64 2)]) (xs := ([1, 2] : List Int)) hp97 (.cons rfl (.cons rfl .nil)) Try.runUnderlying54 Try.sizeOf3 (by intro w_; kernel_rfl) rfl rfl rfl (by kernel_rfl) rfl (fun A99 c100 w101 X102 hp103 O104 => ?_)
          refine k_nil ?_
          exact ⟨_, rfl, hp103.below, ⟨A99, c100, X102, rfl, O104, Fresh.back (hp103.fresh0 (i := 0) rfl) hb94⟩⟩
        refine .cons [] rfl rfl rfl (by kernel_rfl) ?_ ?_
        · rintro σ110 w105 hb106 -
          have hp108 := hp66.grow hb106
          have hp109 := Hp.start w105
          refine s_buildSlice (zv := .int .i64 0) (E := (intE .i64)) (vs := [(0, .int .i64 14), (1, .int .i64 15)]) (xs := ([14, 15] : List Int)) hp109 (.cons rfl (.cons rfl .nil)) Try.runUnderlying54 Try.sizeOf3 (by intro w_; kernel_rfl) rfl rfl rfl (by kernel_rfl) rfl (fun A111 c112 w113 X114 hp115 O116 => ?_)
          refine k_nil ?_
          exact ⟨_, rfl, hp115.below, ⟨A111, c112, X114, rfl, O116, Fresh.back (hp115.fresh0 (i := 0) rfl) hb106⟩⟩
        refine .cons [2, 3, 4] rfl rfl rfl (by kernel_rfl) ?_ ?_
        · rintro σ122 w117 hb118 ⟨⟨u123, hu124, hv125, f126⟩, ⟨u127, hu128, hv129, A131, c132, X133, f130, O134, Fr135⟩, ⟨u136, hu137, hv138, A140, c141, X142, f139, O143, Fr144⟩, -⟩
          have hp120 := hp66.grow hb118
          have hp121 := Hp.start w117
          refine s_call (.cons (tm rfl f126) (.cons (tm rfl f130) (.cons (tm rfl f139) .nil))) Try.call20 (selvageref15_pick.calls k a0.Op A131 c132 ([1, 2] : List Int) A140 c141 ([14, 15] : List Int) r148 _ (RdS.any (O134.rd ((Hp.start w65).adopt hb118 (Fr135.up hv129)) (i := 0) rfl)) (RdS.any (O143.rd ((Hp.start w65).adopt hb118 (Fr144.up hv138)) (i := 0) rfl)) hx149) rfl ?_
          rintro v_ w145 ⟨rfl, hb146⟩
          have hp147 := hp121.grow hb146
          refine k_nil ?_
          exact ⟨_, rfl, hp147.below, rfl⟩
        refine .cons [0, 5] rfl rfl rfl (by kernel_rfl) ?_ ?_
        · rintro σ155 w150 hb151 ⟨⟨u156, hu157, hv158, f159⟩, ⟨u160, hu161, hv162, f163⟩, -⟩
          have hp153 := hp66.grow hb151
          have hp154 := Hp.start w150
          refine s_call (.cons (tm rfl f159) (.cons (tm rfl f163) (.cons rfl .nil))) Try.call19 (selvageref15_word_put.calls k (⟨0, 0⟩ : selvageref15_word) r148 6 r167 _ hx168) rfl ?_
          rintro v_ w164 ⟨rfl, hb165⟩
          have hp166 := hp154.grow hb165
          refine k_nil ?_
          exact ⟨_, rfl, hp166.below, rfl⟩
        refine .cons [] rfl rfl rfl (by kernel_rfl) ?_ ?_
        · rintro σ174 w169 hb170 -
          have hp172 := hp66.grow hb170
          have hp173 := Hp.start w169
          refine sv (v := .pointer (some ⟨b1, 1, none⟩)) rfl rfl rfl (e_fieldAddr (tm rfl rfl) Try.runUnderlying23 rfl Try.sizeOf3 rfl rfl) ?_
          refine k_nil ?_
          exact ⟨_, rfl, below_refl _, rfl⟩
        refine .cons [7] rfl rfl rfl (by kernel_rfl) ?_ ?_
        · rintro σ180 w175 hb176 ⟨⟨u181, hu182, hv183, f184⟩, -⟩
          have hp178 := hp66.grow hb176
          have hp179 := Hp.start w175
          refine sv (v := .int .i64 a0.T) rfl rfl rfl (e_load1 (tm rfl f184) Try.isAgg3 (cell_at (hp178.get (i := 0) (j := 0) rfl rfl) rfl)) ?_
          refine k_nil ?_
          exact ⟨_, rfl, below_refl _, rfl⟩
        refine .cons [6, 8] rfl rfl rfl (by kernel_rfl) ?_ ?_
        · rintro σ190 w185 hb186 ⟨⟨u191, hu192, hv193, f194⟩, ⟨u195, hu196, hv197, f198⟩, -⟩
          have hp188 := hp66.grow hb186
          have hp189 := Hp.start w185
          refine s_call (.cons (tm rfl f194) (.cons (tm rfl f198) (.cons rfl .nil))) Try.call19 (selvageref15_word_put.calls k r167 a0.T 5 r202 _ hx203) rfl ?_
          rintro v_ w199 ⟨rfl, hb200⟩
          have hp201 := hp189.grow hb200
          refine k_nil ?_
          exact ⟨_, rfl, hp201.below, rfl⟩
        refine .cons [] rfl rfl rfl (by kernel_rfl) ?_ ?_
        · rintro σ209 w204 hb205 -
          have hp207 := hp66.grow hb205
          have hp208 := Hp.start w204
          refine sv (v := .pointer (some ⟨b1, 2, none⟩)) rfl rfl rfl (e_fieldAddr (tm rfl rfl) Try.runUnderlying23 rfl Try.sizeOf3 rfl rfl) ?_
          refine k_nil ?_
          exact ⟨_, rfl, below_refl _, rfl⟩
        refine .cons [10] rfl rfl rfl (by kernel_rfl) ?_ ?_
        · rintro σ215 w210 hb211 ⟨⟨u216, hu217, hv218, f219⟩, -⟩
          have hp213 := hp66.grow hb211
          have hp214 := Hp.start w210
          refine sv (v := .int .i64 a0.A) rfl rfl rfl (e_load1 (tm rfl f219) Try.isAgg3 (cell_at (hp213.get (i := 0) (j := 0) rfl rfl) rfl)) ?_
          refine k_nil ?_
          exact ⟨_, rfl, below_refl _, rfl⟩
        refine .cons [9, 11] rfl rfl rfl (by kernel_rfl) ?_ ?_
        · rintro σ225 w220 hb221 ⟨⟨u226, hu227, hv228, f229⟩, ⟨u230, hu231, hv232, f233⟩, -⟩
          have hp223 := hp66.grow hb221
          have hp224 := Hp.start w220
          refine s_call (.cons (tm rfl f229) (.cons (tm rfl f233) (.cons rfl .nil))) Try.call19 (selvageref15_word_put.calls k r202 a0.A 5 r237 _ hx238) rfl ?_
          rintro v_ w234 ⟨rfl, hb235⟩
          have hp236 := hp224.grow hb235
          refine k_nil ?_
          exact ⟨_, rfl, hp236.below, rfl⟩
        refine .cons [] rfl rfl rfl (by kernel_rfl) ?_ ?_
        · rintro σ244 w239 hb240 -
          have hp242 := hp66.grow hb240
          have hp243 := Hp.start w239
          refine sv (v := .pointer (some ⟨b1, 4, none⟩)) rfl rfl rfl (e_fieldAddr (tm rfl rfl) Try.runUnderlying23 rfl Try.sizeOf3 rfl rfl) ?_
          refine k_nil ?_
          exact ⟨_, rfl, below_refl _, rfl⟩
        refine .cons [13] rfl rfl rfl (by kernel_rfl) ?_ ?_
        · rintro σ250 w245 hb246 ⟨⟨u251, hu252, hv253, f254⟩, -⟩
          have hp248 := hp66.grow hb246
          have hp249 := Hp.start w245
          refine sv (v := .int .i64 a0.Imm) rfl rfl rfl (e_load1 (tm rfl f254) Try.isAgg3 (cell_at (hp248.get (i := 0) (j := 0) rfl rfl) rfl)) ?_
          refine k_nil ?_
          exact ⟨_, rfl, below_refl _, rfl⟩
        refine .cons [12, 14] rfl rfl rfl (by kernel_rfl) ?_ ?_
        · rintro σ260 w255 hb256 ⟨⟨u261, hu262, hv263, f264⟩, ⟨u265, hu266, hv267, f268⟩, -⟩
          have hp258 := hp66.grow hb256
          have hp259 := Hp.start w255
          refine s_call (.cons (tm rfl f264) (.cons (tm rfl f268) (.cons rfl .nil))) Try.call19 (selvageref15_word_put.calls k r237 a0.Imm 16 r272 _ hx273) rfl ?_
          rintro v_ w269 ⟨rfl, hb270⟩
          have hp271 := hp259.grow hb270
          refine k_nil ?_
          exact ⟨_, rfl, hp271.below, rfl⟩
        exact .nil
      rintro σ277 w274 hb275 ⟨-, -, -, -, -, -, -, -, -, -, -, -, -, -, -, ⟨u278, hu279, hv280, f281⟩, -⟩
      have hp276 := hp66.grow hb275
      refine seenR [(163, .agg #[.int .u32 r272.w, .int .i64 r272.bits]), (1, .pointer (some ⟨b1, 0, none⟩)), (10, .pointer (some ⟨b62, 0, none⟩))] ⟨f281, rfl, rfl, trivial⟩ ?_
      refine s_store (i := 1) (j := 0) (vs := [.int .u32 r272.w, .int .i64 r272.bits]) (l' := [.int .u32 r272.w, .int .i64 r272.bits]) hp276 (tm rfl rfl) (tm rfl rfl) rfl Try.sizeOf51 rfl rfl rfl rfl rfl rfl (fun w282 hp283 => ?_)
      refine k_nil ?_
      obtain rfl := Option.some.inj H
      exact ⟨(r272.w, r272.bits), _, b62, rfl, seenF ⟨rfl, trivial⟩, hp283.pick [1] (by decide) rfl⟩
    have H := iff_ h70 H
    refine k_seq ?_
    refine k_region ?_
    refine sv (v := .bool (decide (r7 = 2))) rfl rfl rfl (e_bin (tm rfl rfl) rfl (r_eql rfl)) ?_
    refine sv (v := .bool (decide (r7 = 2))) rfl rfl rfl (e_assign (tm rfl rfl)) ?_
    refine k_nil ?_
    refine k_if (tm rfl rfl) (fun h284 => ?_) (fun h284 => ?_)
    · have H := ift h284 H
      obtain ⟨r362, hx363, H⟩ := bindSome H
      obtain ⟨r381, hx382, H⟩ := bindSome H
      obtain ⟨r416, hx417, H⟩ := bindSome H
      obtain ⟨r451, hx452, H⟩ := bindSome H
      obtain ⟨r486, hx487, H⟩ := bindSome H
      refine k_drawn [(1, .pointer (some ⟨b1, 0, none⟩)), (10, .pointer (some ⟨b62, 0, none⟩))] 16 [⟨166, fun v w' => v = .agg #[.int .u32 0, .int .i64 0]⟩, ⟨167, fun v w' => v = .pointer (some ⟨b1, 0, none⟩)⟩, ⟨168, fun v w' => v = .int .i64 a0.Op⟩, ⟨169, fun v w' => ∃ (A_ : Option Addr) (c_ : Nat) (X_ : Rsc), v = .slice A_ (([3, 4] : List Int).length) c_ ∧ Own (intE .i64) 3 A_ c_ ([3, 4] : List Int) X_ ∧ Fresh w65 w' X_⟩, ⟨170, fun v w' => ∃ (A_ : Option Addr) (c_ : Nat) (X_ : Rsc), v = .slice A_ (([24, 25] : List Int).length) c_ ∧ Own (intE .i64) 3 A_ c_ ([24, 25] : List Int) X_ ∧ Fresh w65 w' X_⟩, ⟨171, fun v w' => v = .int .i64 r362⟩, ⟨172, fun v w' => v = .agg #[.int .u32 r381.w, .int .i64 r381.bits]⟩, ⟨173, fun v w' => v = .pointer (some ⟨b1, 2, none⟩)⟩, ⟨174, fun v w' => v = .int .i64 a0.A⟩, ⟨175, fun v w' => v = .agg #[.int .u32 r416.w, .int .i64 r416.bits]⟩, ⟨176, fun v w' => v = .pointer (some ⟨b1, 1, none⟩)⟩, ⟨177, fun v w' => v = .int .i64 a0.T⟩, ⟨178, fun v w' => v = .agg #[.int .u32 r451.w, .int .i64 r451.bits]⟩, ⟨179, fun v w' => v = .pointer (some ⟨b1, 4, none⟩)⟩, ⟨180, fun v w' => v = .int .i64 a0.Imm⟩, ⟨181, fun v w' => v = .agg #[.int .u32 r486.w, .int .i64 r486.bits]⟩] ⟨rfl, rfl, trivial⟩ mixed rfl rfl rfl (by kernel_rfl) (by kernel_rfl) ?_ ?_
      · refine .cons [] rfl rfl rfl (by kernel_rfl) ?_ ?_
        · rintro σ290 w285 hb286 -
          have hp288 := hp66.grow hb286
          have hp289 := Hp.start w285
          refine sv (v := .agg #[.int .u32 0, .int .i64 0]) rfl rfl rfl (e_loadA (tm rfl rfl) Try.isAgg51 Try.sizeOf51 rfl (cells_box (sz := 2) (hp288.get (i := 1) (j := 0) rfl rfl) rfl)) ?_
          refine k_nil ?_
          exact ⟨_, rfl, below_refl _, rfl⟩
        refine .cons [] rfl rfl rfl (by kernel_rfl) ?_ ?_
        · rintro σ296 w291 hb292 -
          have hp294 := hp66.grow hb292
          have hp295 := Hp.start w291
          refine sv (v := .pointer (some ⟨b1, 0, none⟩)) rfl rfl rfl (e_fieldAddr (tm rfl rfl) Try.runUnderlying23 rfl Try.sizeOf3 rfl rfl) ?_
          refine k_nil ?_
          exact ⟨_, rfl, below_refl _, rfl⟩
        refine .cons [1] rfl rfl rfl (by kernel_rfl) ?_ ?_
        · rintro σ302 w297 hb298 ⟨⟨u303, hu304, hv305, f306⟩, -⟩
          have hp300 := hp66.grow hb298
          have hp301 := Hp.start w297
          refine sv (v := .int .i64 a0.Op) rfl rfl rfl (e_load1 (tm rfl f306) Try.isAgg3 (cell_at (hp300.get (i := 0) (j := 0) rfl rfl) rfl)) ?_
          refine k_nil ?_
          exact ⟨_, rfl, below_refl _, rfl⟩
        refine .cons [] rfl rfl rfl (by kernel_rfl) ?_ ?_
        · rintro σ312 w307 hb308 -
          have hp310 := hp66.grow hb308
          have hp311 := Hp.start w307
          refine s_buildSlice (zv := .int .i64 0) (E := (intE .i64)) (vs := [(0, .int .i64 3), (1, .int .i64 4)]) (xs := ([3, 4] : List Int)) hp311 (.cons rfl (.cons rfl .nil)) Try.runUnderlying54 Try.sizeOf3 (by intro w_; kernel_rfl) rfl rfl rfl (by kernel_rfl) rfl (fun A313 c314 w315 X316 hp317 O318 => ?_)
          refine k_nil ?_
          exact ⟨_, rfl, hp317.below, ⟨A313, c314, X316, rfl, O318, Fresh.back (hp317.fresh0 (i := 0) rfl) hb308⟩⟩
        refine .cons [] rfl rfl rfl (by kernel_rfl) ?_ ?_
        · rintro σ324 w319 hb320 -
          have hp322 := hp66.grow hb320
          have hp323 := Hp.start w319
          refine s_buildSlice (zv := .int .i64 0) (E := (intE .i64)) (vs := [(0, .int .i64 24), (1, .int .i64 25)]) (xs := ([24, 25] : List Int)) hp323 (.cons rfl (.cons rfl .nil)) Try.runUnderlying54 Try.sizeOf3 (by intro w_; kernel_rfl) rfl rfl rfl (by kernel_rfl) rfl (fun A325 c326 w327 X328 hp329 O330 => ?_)
          refine k_nil ?_
          exact ⟨_, rfl, hp329.below, ⟨A325, c326, X328, rfl, O330, Fresh.back (hp329.fresh0 (i := 0) rfl) hb320⟩⟩
        refine .cons [2, 3, 4] rfl rfl rfl (by kernel_rfl) ?_ ?_
        · rintro σ336 w331 hb332 ⟨⟨u337, hu338, hv339, f340⟩, ⟨u341, hu342, hv343, A345, c346, X347, f344, O348, Fr349⟩, ⟨u350, hu351, hv352, A354, c355, X356, f353, O357, Fr358⟩, -⟩
          have hp334 := hp66.grow hb332
          have hp335 := Hp.start w331
          refine s_call (.cons (tm rfl f340) (.cons (tm rfl f344) (.cons (tm rfl f353) .nil))) Try.call20 (selvageref15_pick.calls k a0.Op A345 c346 ([3, 4] : List Int) A354 c355 ([24, 25] : List Int) r362 _ (RdS.any (O348.rd ((Hp.start w65).adopt hb332 (Fr349.up hv343)) (i := 0) rfl)) (RdS.any (O357.rd ((Hp.start w65).adopt hb332 (Fr358.up hv352)) (i := 0) rfl)) hx363) rfl ?_
          rintro v_ w359 ⟨rfl, hb360⟩
          have hp361 := hp335.grow hb360
          refine k_nil ?_
          exact ⟨_, rfl, hp361.below, rfl⟩
        refine .cons [0, 5] rfl rfl rfl (by kernel_rfl) ?_ ?_
        · rintro σ369 w364 hb365 ⟨⟨u370, hu371, hv372, f373⟩, ⟨u374, hu375, hv376, f377⟩, -⟩
          have hp367 := hp66.grow hb365
          have hp368 := Hp.start w364
          refine s_call (.cons (tm rfl f373) (.cons (tm rfl f377) (.cons rfl .nil))) Try.call19 (selvageref15_word_put.calls k (⟨0, 0⟩ : selvageref15_word) r362 6 r381 _ hx382) rfl ?_
          rintro v_ w378 ⟨rfl, hb379⟩
          have hp380 := hp368.grow hb379
          refine k_nil ?_
          exact ⟨_, rfl, hp380.below, rfl⟩
        refine .cons [] rfl rfl rfl (by kernel_rfl) ?_ ?_
        · rintro σ388 w383 hb384 -
          have hp386 := hp66.grow hb384
          have hp387 := Hp.start w383
          refine sv (v := .pointer (some ⟨b1, 2, none⟩)) rfl rfl rfl (e_fieldAddr (tm rfl rfl) Try.runUnderlying23 rfl Try.sizeOf3 rfl rfl) ?_
          refine k_nil ?_
          exact ⟨_, rfl, below_refl _, rfl⟩
        refine .cons [7] rfl rfl rfl (by kernel_rfl) ?_ ?_
        · rintro σ394 w389 hb390 ⟨⟨u395, hu396, hv397, f398⟩, -⟩
          have hp392 := hp66.grow hb390
          have hp393 := Hp.start w389
          refine sv (v := .int .i64 a0.A) rfl rfl rfl (e_load1 (tm rfl f398) Try.isAgg3 (cell_at (hp392.get (i := 0) (j := 0) rfl rfl) rfl)) ?_
          refine k_nil ?_
          exact ⟨_, rfl, below_refl _, rfl⟩
        refine .cons [6, 8] rfl rfl rfl (by kernel_rfl) ?_ ?_
        · rintro σ404 w399 hb400 ⟨⟨u405, hu406, hv407, f408⟩, ⟨u409, hu410, hv411, f412⟩, -⟩
          have hp402 := hp66.grow hb400
          have hp403 := Hp.start w399
          refine s_call (.cons (tm rfl f408) (.cons (tm rfl f412) (.cons rfl .nil))) Try.call19 (selvageref15_word_put.calls k r381 a0.A 5 r416 _ hx417) rfl ?_
          rintro v_ w413 ⟨rfl, hb414⟩
          have hp415 := hp403.grow hb414
          refine k_nil ?_
          exact ⟨_, rfl, hp415.below, rfl⟩
        refine .cons [] rfl rfl rfl (by kernel_rfl) ?_ ?_
        · rintro σ423 w418 hb419 -
          have hp421 := hp66.grow hb419
          have hp422 := Hp.start w418
          refine sv (v := .pointer (some ⟨b1, 1, none⟩)) rfl rfl rfl (e_fieldAddr (tm rfl rfl) Try.runUnderlying23 rfl Try.sizeOf3 rfl rfl) ?_
          refine k_nil ?_
          exact ⟨_, rfl, below_refl _, rfl⟩
        refine .cons [10] rfl rfl rfl (by kernel_rfl) ?_ ?_
        · rintro σ429 w424 hb425 ⟨⟨u430, hu431, hv432, f433⟩, -⟩
          have hp427 := hp66.grow hb425
          have hp428 := Hp.start w424
          refine sv (v := .int .i64 a0.T) rfl rfl rfl (e_load1 (tm rfl f433) Try.isAgg3 (cell_at (hp427.get (i := 0) (j := 0) rfl rfl) rfl)) ?_
          refine k_nil ?_
          exact ⟨_, rfl, below_refl _, rfl⟩
        refine .cons [9, 11] rfl rfl rfl (by kernel_rfl) ?_ ?_
        · rintro σ439 w434 hb435 ⟨⟨u440, hu441, hv442, f443⟩, ⟨u444, hu445, hv446, f447⟩, -⟩
          have hp437 := hp66.grow hb435
          have hp438 := Hp.start w434
          refine s_call (.cons (tm rfl f443) (.cons (tm rfl f447) (.cons rfl .nil))) Try.call19 (selvageref15_word_put.calls k r416 a0.T 5 r451 _ hx452) rfl ?_
          rintro v_ w448 ⟨rfl, hb449⟩
          have hp450 := hp438.grow hb449
          refine k_nil ?_
          exact ⟨_, rfl, hp450.below, rfl⟩
        refine .cons [] rfl rfl rfl (by kernel_rfl) ?_ ?_
        · rintro σ458 w453 hb454 -
          have hp456 := hp66.grow hb454
          have hp457 := Hp.start w453
          refine sv (v := .pointer (some ⟨b1, 4, none⟩)) rfl rfl rfl (e_fieldAddr (tm rfl rfl) Try.runUnderlying23 rfl Try.sizeOf3 rfl rfl) ?_
          refine k_nil ?_
          exact ⟨_, rfl, below_refl _, rfl⟩
        refine .cons [13] rfl rfl rfl (by kernel_rfl) ?_ ?_
        · rintro σ464 w459 hb460 ⟨⟨u465, hu466, hv467, f468⟩, -⟩
          have hp462 := hp66.grow hb460
          have hp463 := Hp.start w459
          refine sv (v := .int .i64 a0.Imm) rfl rfl rfl (e_load1 (tm rfl f468) Try.isAgg3 (cell_at (hp462.get (i := 0) (j := 0) rfl rfl) rfl)) ?_
          refine k_nil ?_
          exact ⟨_, rfl, below_refl _, rfl⟩
        refine .cons [12, 14] rfl rfl rfl (by kernel_rfl) ?_ ?_
        · rintro σ474 w469 hb470 ⟨⟨u475, hu476, hv477, f478⟩, ⟨u479, hu480, hv481, f482⟩, -⟩
          have hp472 := hp66.grow hb470
          have hp473 := Hp.start w469
          refine s_call (.cons (tm rfl f478) (.cons (tm rfl f482) (.cons rfl .nil))) Try.call19 (selvageref15_word_put.calls k r451 a0.Imm 16 r486 _ hx487) rfl ?_
          rintro v_ w483 ⟨rfl, hb484⟩
          have hp485 := hp473.grow hb484
          refine k_nil ?_
          exact ⟨_, rfl, hp485.below, rfl⟩
        exact .nil
      rintro σ491 w488 hb489 ⟨-, -, -, -, -, -, -, -, -, -, -, -, -, -, -, ⟨u492, hu493, hv494, f495⟩, -⟩
      have hp490 := hp66.grow hb489
      refine seenR [(181, .agg #[.int .u32 r486.w, .int .i64 r486.bits]), (1, .pointer (some ⟨b1, 0, none⟩)), (10, .pointer (some ⟨b62, 0, none⟩))] ⟨f495, rfl, rfl, trivial⟩ ?_
      refine s_store (i := 1) (j := 0) (vs := [.int .u32 r486.w, .int .i64 r486.bits]) (l' := [.int .u32 r486.w, .int .i64 r486.bits]) hp490 (tm rfl rfl) (tm rfl rfl) rfl Try.sizeOf51 rfl rfl rfl rfl rfl rfl (fun w496 hp497 => ?_)
      refine k_nil ?_
      obtain rfl := Option.some.inj H
      exact ⟨(r486.w, r486.bits), _, b62, rfl, seenF ⟨rfl, trivial⟩, hp497.pick [1] (by decide) rfl⟩
    have H := iff_ h284 H
    refine k_seq ?_
    refine k_region ?_
    refine sv (v := .bool (decide (r7 = 3))) rfl rfl rfl (e_bin (tm rfl rfl) rfl (r_eql rfl)) ?_
    refine sv (v := .bool (decide (r7 = 3))) rfl rfl rfl (e_assign (tm rfl rfl)) ?_
    refine k_nil ?_
    refine k_if (tm rfl rfl) (fun h498 => ?_) (fun h498 => ?_)
    · have H := ift h498 H
      obtain ⟨r518, hx519, H⟩ := bindSome H
      obtain ⟨r553, hx554, H⟩ := bindSome H
      obtain ⟨r588, hx589, H⟩ := bindSome H
      obtain ⟨r623, hx624, H⟩ := bindSome H
      obtain ⟨r668, hx669, H⟩ := bindSome H
      obtain ⟨r723, hx724, H⟩ := bindSome H
      obtain ⟨r738, hx739, H⟩ := bindSome H
      obtain ⟨r783, hx784, H⟩ := bindSome H
      obtain ⟨r798, hx799, H⟩ := bindSome H
      refine k_drawn [(1, .pointer (some ⟨b1, 0, none⟩)), (10, .pointer (some ⟨b62, 0, none⟩))] 26 [⟨184, fun v w' => v = .agg #[.int .u32 0, .int .i64 0]⟩, ⟨185, fun v w' => v = .agg #[.int .u32 r518.w, .int .i64 r518.bits]⟩, ⟨186, fun v w' => v = .pointer (some ⟨b1, 2, none⟩)⟩, ⟨187, fun v w' => v = .int .i64 a0.A⟩, ⟨188, fun v w' => v = .agg #[.int .u32 r553.w, .int .i64 r553.bits]⟩, ⟨189, fun v w' => v = .pointer (some ⟨b1, 1, none⟩)⟩, ⟨190, fun v w' => v = .int .i64 a0.T⟩, ⟨191, fun v w' => v = .agg #[.int .u32 r588.w, .int .i64 r588.bits]⟩, ⟨192, fun v w' => v = .pointer (some ⟨b1, 4, none⟩)⟩, ⟨193, fun v w' => v = .int .i64 a0.Imm⟩, ⟨194, fun v w' => v = .agg #[.int .u32 r623.w, .int .i64 r623.bits]⟩, ⟨195, fun v w' => v = .pointer (some ⟨b1, 4, none⟩)⟩, ⟨196, fun v w' => v = .int .i64 a0.Imm⟩, ⟨197, fun v w' => v = .int .i64 (wrap64 (63 - a0.Imm))⟩, ⟨198, fun v w' => v = .agg #[.int .u32 r668.w, .int .i64 r668.bits]⟩, ⟨199, fun v w' => v = .pointer (some ⟨b1, 4, none⟩)⟩, ⟨200, fun v w' => v = .int .i64 a0.Imm⟩, ⟨201, fun v w' => v = .int .i64 (wrap64 (63 - a0.Imm))⟩, ⟨202, fun v w' => v = .int .i64 (wrap64 (Int.tdiv (wrap64 (63 - a0.Imm)) 32))⟩, ⟨203, fun v w' => v = .agg #[.int .u32 r723.w, .int .i64 r723.bits]⟩, ⟨204, fun v w' => v = .agg #[.int .u32 r738.w, .int .i64 r738.bits]⟩, ⟨205, fun v w' => v = .pointer (some ⟨b1, 4, none⟩)⟩, ⟨206, fun v w' => v = .int .i64 a0.Imm⟩, ⟨207, fun v w' => v = .int .i64 (wrap64 (Int.tdiv a0.Imm 32))⟩, ⟨208, fun v w' => v = .agg #[.int .u32 r783.w, .int .i64 r783.bits]⟩, ⟨209, fun v w' => v = .agg #[.int .u32 r798.w, .int .i64 r798.bits]⟩] ⟨rfl, rfl, trivial⟩ mixed rfl rfl rfl (by kernel_rfl) (by kernel_rfl) ?_ ?_
      · refine .cons [] rfl rfl rfl (by kernel_rfl) ?_ ?_
        · rintro σ504 w499 hb500 -
          have hp502 := hp66.grow hb500
          have hp503 := Hp.start w499
          refine sv (v := .agg #[.int .u32 0, .int .i64 0]) rfl rfl rfl (e_loadA (tm rfl rfl) Try.isAgg51 Try.sizeOf51 rfl (cells_box (sz := 2) (hp502.get (i := 1) (j := 0) rfl rfl) rfl)) ?_
          refine k_nil ?_
          exact ⟨_, rfl, below_refl _, rfl⟩
        refine .cons [0] rfl rfl rfl (by kernel_rfl) ?_ ?_
        · rintro σ510 w505 hb506 ⟨⟨u511, hu512, hv513, f514⟩, -⟩
          have hp508 := hp66.grow hb506
          have hp509 := Hp.start w505
          refine s_call (.cons (tm rfl f514) (.cons rfl (.cons rfl .nil))) Try.call19 (selvageref15_word_put.calls k (⟨0, 0⟩ : selvageref15_word) 30 6 r518 _ hx519) rfl ?_
          rintro v_ w515 ⟨rfl, hb516⟩
          have hp517 := hp509.grow hb516
          refine k_nil ?_
          exact ⟨_, rfl, hp517.below, rfl⟩
        refine .cons [] rfl rfl rfl (by kernel_rfl) ?_ ?_
        · rintro σ525 w520 hb521 -
          have hp523 := hp66.grow hb521
          have hp524 := Hp.start w520
          refine sv (v := .pointer (some ⟨b1, 2, none⟩)) rfl rfl rfl (e_fieldAddr (tm rfl rfl) Try.runUnderlying23 rfl Try.sizeOf3 rfl rfl) ?_
          refine k_nil ?_
          exact ⟨_, rfl, below_refl _, rfl⟩
        refine .cons [2] rfl rfl rfl (by kernel_rfl) ?_ ?_
        · rintro σ531 w526 hb527 ⟨⟨u532, hu533, hv534, f535⟩, -⟩
          have hp529 := hp66.grow hb527
          have hp530 := Hp.start w526
          refine sv (v := .int .i64 a0.A) rfl rfl rfl (e_load1 (tm rfl f535) Try.isAgg3 (cell_at (hp529.get (i := 0) (j := 0) rfl rfl) rfl)) ?_
          refine k_nil ?_
          exact ⟨_, rfl, below_refl _, rfl⟩
        refine .cons [1, 3] rfl rfl rfl (by kernel_rfl) ?_ ?_
        · rintro σ541 w536 hb537 ⟨⟨u542, hu543, hv544, f545⟩, ⟨u546, hu547, hv548, f549⟩, -⟩
          have hp539 := hp66.grow hb537
          have hp540 := Hp.start w536
          refine s_call (.cons (tm rfl f545) (.cons (tm rfl f549) (.cons rfl .nil))) Try.call19 (selvageref15_word_put.calls k r518 a0.A 5 r553 _ hx554) rfl ?_
          rintro v_ w550 ⟨rfl, hb551⟩
          have hp552 := hp540.grow hb551
          refine k_nil ?_
          exact ⟨_, rfl, hp552.below, rfl⟩
        refine .cons [] rfl rfl rfl (by kernel_rfl) ?_ ?_
        · rintro σ560 w555 hb556 -
          have hp558 := hp66.grow hb556
          have hp559 := Hp.start w555
          refine sv (v := .pointer (some ⟨b1, 1, none⟩)) rfl rfl rfl (e_fieldAddr (tm rfl rfl) Try.runUnderlying23 rfl Try.sizeOf3 rfl rfl) ?_
          refine k_nil ?_
          exact ⟨_, rfl, below_refl _, rfl⟩
        refine .cons [5] rfl rfl rfl (by kernel_rfl) ?_ ?_
        · rintro σ566 w561 hb562 ⟨⟨u567, hu568, hv569, f570⟩, -⟩
          have hp564 := hp66.grow hb562
          have hp565 := Hp.start w561
          refine sv (v := .int .i64 a0.T) rfl rfl rfl (e_load1 (tm rfl f570) Try.isAgg3 (cell_at (hp564.get (i := 0) (j := 0) rfl rfl) rfl)) ?_
          refine k_nil ?_
          exact ⟨_, rfl, below_refl _, rfl⟩
        refine .cons [4, 6] rfl rfl rfl (by kernel_rfl) ?_ ?_
        · rintro σ576 w571 hb572 ⟨⟨u577, hu578, hv579, f580⟩, ⟨u581, hu582, hv583, f584⟩, -⟩
          have hp574 := hp66.grow hb572
          have hp575 := Hp.start w571
          refine s_call (.cons (tm rfl f580) (.cons (tm rfl f584) (.cons rfl .nil))) Try.call19 (selvageref15_word_put.calls k r553 a0.T 5 r588 _ hx589) rfl ?_
          rintro v_ w585 ⟨rfl, hb586⟩
          have hp587 := hp575.grow hb586
          refine k_nil ?_
          exact ⟨_, rfl, hp587.below, rfl⟩
        refine .cons [] rfl rfl rfl (by kernel_rfl) ?_ ?_
        · rintro σ595 w590 hb591 -
          have hp593 := hp66.grow hb591
          have hp594 := Hp.start w590
          refine sv (v := .pointer (some ⟨b1, 4, none⟩)) rfl rfl rfl (e_fieldAddr (tm rfl rfl) Try.runUnderlying23 rfl Try.sizeOf3 rfl rfl) ?_
          refine k_nil ?_
          exact ⟨_, rfl, below_refl _, rfl⟩
        refine .cons [8] rfl rfl rfl (by kernel_rfl) ?_ ?_
        · rintro σ601 w596 hb597 ⟨⟨u602, hu603, hv604, f605⟩, -⟩
          have hp599 := hp66.grow hb597
          have hp600 := Hp.start w596
          refine sv (v := .int .i64 a0.Imm) rfl rfl rfl (e_load1 (tm rfl f605) Try.isAgg3 (cell_at (hp599.get (i := 0) (j := 0) rfl rfl) rfl)) ?_
          refine k_nil ?_
          exact ⟨_, rfl, below_refl _, rfl⟩
        refine .cons [7, 9] rfl rfl rfl (by kernel_rfl) ?_ ?_
        · rintro σ611 w606 hb607 ⟨⟨u612, hu613, hv614, f615⟩, ⟨u616, hu617, hv618, f619⟩, -⟩
          have hp609 := hp66.grow hb607
          have hp610 := Hp.start w606
          refine s_call (.cons (tm rfl f615) (.cons (tm rfl f619) (.cons rfl .nil))) Try.call19 (selvageref15_word_put.calls k r588 a0.Imm 5 r623 _ hx624) rfl ?_
          rintro v_ w620 ⟨rfl, hb621⟩
          have hp622 := hp610.grow hb621
          refine k_nil ?_
          exact ⟨_, rfl, hp622.below, rfl⟩
        refine .cons [] rfl rfl rfl (by kernel_rfl) ?_ ?_
        · rintro σ630 w625 hb626 -
          have hp628 := hp66.grow hb626
          have hp629 := Hp.start w625
          refine sv (v := .pointer (some ⟨b1, 4, none⟩)) rfl rfl rfl (e_fieldAddr (tm rfl rfl) Try.runUnderlying23 rfl Try.sizeOf3 rfl rfl) ?_
          refine k_nil ?_
          exact ⟨_, rfl, below_refl _, rfl⟩
        refine .cons [11] rfl rfl rfl (by kernel_rfl) ?_ ?_
        · rintro σ636 w631 hb632 ⟨⟨u637, hu638, hv639, f640⟩, -⟩
          have hp634 := hp66.grow hb632
          have hp635 := Hp.start w631
          refine sv (v := .int .i64 a0.Imm) rfl rfl rfl (e_load1 (tm rfl f640) Try.isAgg3 (cell_at (hp634.get (i := 0) (j := 0) rfl rfl) rfl)) ?_
          refine k_nil ?_
          exact ⟨_, rfl, below_refl _, rfl⟩
        refine .cons [12] rfl rfl rfl (by kernel_rfl) ?_ ?_
        · rintro σ646 w641 hb642 ⟨⟨u647, hu648, hv649, f650⟩, -⟩
          have hp644 := hp66.grow hb642
          have hp645 := Hp.start w641
          refine sv (v := .int .i64 (wrap64 (63 - a0.Imm))) rfl rfl rfl (e_bin rfl (tm rfl f650) (r_sub (wrap_i64 _))) ?_
          refine k_nil ?_
          exact ⟨_, rfl, below_refl _, rfl⟩
        refine .cons [10, 13] rfl rfl rfl (by kernel_rfl) ?_ ?_
        · rintro σ656 w651 hb652 ⟨⟨u657, hu658, hv659, f660⟩, ⟨u661, hu662, hv663, f664⟩, -⟩
          have hp654 := hp66.grow hb652
          have hp655 := Hp.start w651
          refine s_call (.cons (tm rfl f660) (.cons (tm rfl f664) (.cons rfl .nil))) Try.call19 (selvageref15_word_put.calls k r623 (wrap64 (63 - a0.Imm)) 5 r668 _ hx669) rfl ?_
          rintro v_ w665 ⟨rfl, hb666⟩
          have hp667 := hp655.grow hb666
          refine k_nil ?_
          exact ⟨_, rfl, hp667.below, rfl⟩
        refine .cons [] rfl rfl rfl (by kernel_rfl) ?_ ?_
        · rintro σ675 w670 hb671 -
          have hp673 := hp66.grow hb671
          have hp674 := Hp.start w670
          refine sv (v := .pointer (some ⟨b1, 4, none⟩)) rfl rfl rfl (e_fieldAddr (tm rfl rfl) Try.runUnderlying23 rfl Try.sizeOf3 rfl rfl) ?_
          refine k_nil ?_
          exact ⟨_, rfl, below_refl _, rfl⟩
        refine .cons [15] rfl rfl rfl (by kernel_rfl) ?_ ?_
        · rintro σ681 w676 hb677 ⟨⟨u682, hu683, hv684, f685⟩, -⟩
          have hp679 := hp66.grow hb677
          have hp680 := Hp.start w676
          refine sv (v := .int .i64 a0.Imm) rfl rfl rfl (e_load1 (tm rfl f685) Try.isAgg3 (cell_at (hp679.get (i := 0) (j := 0) rfl rfl) rfl)) ?_
          refine k_nil ?_
          exact ⟨_, rfl, below_refl _, rfl⟩
        refine .cons [16] rfl rfl rfl (by kernel_rfl) ?_ ?_
        · rintro σ691 w686 hb687 ⟨⟨u692, hu693, hv694, f695⟩, -⟩
          have hp689 := hp66.grow hb687
          have hp690 := Hp.start w686
          refine sv (v := .int .i64 (wrap64 (63 - a0.Imm))) rfl rfl rfl (e_bin rfl (tm rfl f695) (r_sub (wrap_i64 _))) ?_
          refine k_nil ?_
          exact ⟨_, rfl, below_refl _, rfl⟩
        refine .cons [17] rfl rfl rfl (by kernel_rfl) ?_ ?_
        · rintro σ701 w696 hb697 ⟨⟨u702, hu703, hv704, f705⟩, -⟩
          have hp699 := hp66.grow hb697
          have hp700 := Hp.start w696
          refine sv (v := .int .i64 (wrap64 (Int.tdiv (wrap64 (63 - a0.Imm)) 32))) rfl rfl rfl (e_bin (tm rfl f705) rfl (r_div (op := .not) (by decide) (wrap_i64 _))) ?_
          refine k_nil ?_
          exact ⟨_, rfl, below_refl _, rfl⟩
        refine .cons [14, 18] rfl rfl rfl (by kernel_rfl) ?_ ?_
        · rintro σ711 w706 hb707 ⟨⟨u712, hu713, hv714, f715⟩, ⟨u716, hu717, hv718, f719⟩, -⟩
          have hp709 := hp66.grow hb707
          have hp710 := Hp.start w706
          refine s_call (.cons (tm rfl f715) (.cons (tm rfl f719) (.cons rfl .nil))) Try.call19 (selvageref15_word_put.calls k r668 (wrap64 (Int.tdiv (wrap64 (63 - a0.Imm)) 32)) 1 r723 _ hx724) rfl ?_
          rintro v_ w720 ⟨rfl, hb721⟩
          have hp722 := hp710.grow hb721
          refine k_nil ?_
          exact ⟨_, rfl, hp722.below, rfl⟩
        refine .cons [19] rfl rfl rfl (by kernel_rfl) ?_ ?_
        · rintro σ730 w725 hb726 ⟨⟨u731, hu732, hv733, f734⟩, -⟩
          have hp728 := hp66.grow hb726
          have hp729 := Hp.start w725
          refine s_call (.cons (tm rfl f734) (.cons rfl (.cons rfl .nil))) Try.call19 (selvageref15_word_put.calls k r723 1 3 r738 _ hx739) rfl ?_
          rintro v_ w735 ⟨rfl, hb736⟩
          have hp737 := hp729.grow hb736
          refine k_nil ?_
          exact ⟨_, rfl, hp737.below, rfl⟩
        refine .cons [] rfl rfl rfl (by kernel_rfl) ?_ ?_
        · rintro σ745 w740 hb741 -
          have hp743 := hp66.grow hb741
          have hp744 := Hp.start w740
          refine sv (v := .pointer (some ⟨b1, 4, none⟩)) rfl rfl rfl (e_fieldAddr (tm rfl rfl) Try.runUnderlying23 rfl Try.sizeOf3 rfl rfl) ?_
          refine k_nil ?_
          exact ⟨_, rfl, below_refl _, rfl⟩
        refine .cons [21] rfl rfl rfl (by kernel_rfl) ?_ ?_
        · rintro σ751 w746 hb747 ⟨⟨u752, hu753, hv754, f755⟩, -⟩
          have hp749 := hp66.grow hb747
          have hp750 := Hp.start w746
          refine sv (v := .int .i64 a0.Imm) rfl rfl rfl (e_load1 (tm rfl f755) Try.isAgg3 (cell_at (hp749.get (i := 0) (j := 0) rfl rfl) rfl)) ?_
          refine k_nil ?_
          exact ⟨_, rfl, below_refl _, rfl⟩
        refine .cons [22] rfl rfl rfl (by kernel_rfl) ?_ ?_
        · rintro σ761 w756 hb757 ⟨⟨u762, hu763, hv764, f765⟩, -⟩
          have hp759 := hp66.grow hb757
          have hp760 := Hp.start w756
          refine sv (v := .int .i64 (wrap64 (Int.tdiv a0.Imm 32))) rfl rfl rfl (e_bin (tm rfl f765) rfl (r_div (op := .not) (by decide) (wrap_i64 _))) ?_
          refine k_nil ?_
          exact ⟨_, rfl, below_refl _, rfl⟩
        refine .cons [20, 23] rfl rfl rfl (by kernel_rfl) ?_ ?_
        · rintro σ771 w766 hb767 ⟨⟨u772, hu773, hv774, f775⟩, ⟨u776, hu777, hv778, f779⟩, -⟩
          have hp769 := hp66.grow hb767
          have hp770 := Hp.start w766
          refine s_call (.cons (tm rfl f775) (.cons (tm rfl f779) (.cons rfl .nil))) Try.call19 (selvageref15_word_put.calls k r738 (wrap64 (Int.tdiv a0.Imm 32)) 1 r783 _ hx784) rfl ?_
          rintro v_ w780 ⟨rfl, hb781⟩
          have hp782 := hp770.grow hb781
          refine k_nil ?_
          exact ⟨_, rfl, hp782.below, rfl⟩
        refine .cons [24] rfl rfl rfl (by kernel_rfl) ?_ ?_
        · rintro σ790 w785 hb786 ⟨⟨u791, hu792, hv793, f794⟩, -⟩
          have hp788 := hp66.grow hb786
          have hp789 := Hp.start w785
          refine s_call (.cons (tm rfl f794) (.cons rfl (.cons rfl .nil))) Try.call19 (selvageref15_word_put.calls k r783 0 1 r798 _ hx799) rfl ?_
          rintro v_ w795 ⟨rfl, hb796⟩
          have hp797 := hp789.grow hb796
          refine k_nil ?_
          exact ⟨_, rfl, hp797.below, rfl⟩
        exact .nil
      rintro σ803 w800 hb801 ⟨-, -, -, -, -, -, -, -, -, -, -, -, -, -, -, -, -, -, -, -, -, -, -, -, -, ⟨u804, hu805, hv806, f807⟩, -⟩
      have hp802 := hp66.grow hb801
      refine seenR [(209, .agg #[.int .u32 r798.w, .int .i64 r798.bits]), (1, .pointer (some ⟨b1, 0, none⟩)), (10, .pointer (some ⟨b62, 0, none⟩))] ⟨f807, rfl, rfl, trivial⟩ ?_
      refine s_store (i := 1) (j := 0) (vs := [.int .u32 r798.w, .int .i64 r798.bits]) (l' := [.int .u32 r798.w, .int .i64 r798.bits]) hp802 (tm rfl rfl) (tm rfl rfl) rfl Try.sizeOf51 rfl rfl rfl rfl rfl rfl (fun w808 hp809 => ?_)
      refine k_nil ?_
      obtain rfl := Option.some.inj H
      exact ⟨(r798.w, r798.bits), _, b62, rfl, seenF ⟨rfl, trivial⟩, hp809.pick [1] (by decide) rfl⟩
    have H := iff_ h498 H
    refine k_seq ?_
    refine k_region ?_
    refine sv (v := .bool (decide (r7 = 4))) rfl rfl rfl (e_bin (tm rfl rfl) rfl (r_eql rfl)) ?_
    refine sv (v := .bool (decide (r7 = 4))) rfl rfl rfl (e_assign (tm rfl rfl)) ?_
    refine k_nil ?_
    refine k_if (tm rfl rfl) (fun h810 => ?_) (fun h810 => ?_)
    · have H := ift h810 H
      refine k_seq ?_
      refine k_region ?_
      refine sv (v := .pointer (some ⟨b1, 0, none⟩)) rfl rfl rfl (e_fieldAddr (tm rfl rfl) Try.runUnderlying23 rfl Try.sizeOf3 rfl rfl) ?_
      refine sv (v := .int .i64 a0.Op) rfl rfl rfl (e_load1 (tm rfl rfl) Try.isAgg3 (cell_at (hp66.get (i := 0) (j := 0) rfl rfl) rfl)) ?_
      refine s_buildSlice (zv := .int .i64 0) (E := (intE .i64)) (vs := [(0, .int .i64 6), (1, .int .i64 7), (2, .int .i64 8), (3, .int .i64 9), (4, .int .i64 12), (5, .int .i64 13), (6, .int .i64 14), (7, .int .i64 15)]) (xs := ([6, 7, 8, 9, 12, 13, 14, 15] : List Int)) hp66 (.cons rfl (.cons rfl (.cons rfl (.cons rfl (.cons rfl (.cons rfl (.cons rfl (.cons rfl .nil)))))))) Try.runUnderlying54 Try.sizeOf3 (by intro w_; kernel_rfl) rfl rfl rfl (by kernel_rfl) rfl (fun A811 c812 w813 X814 hp815 O816 => ?_)
      refine s_buildSlice (zv := .int .i64 0) (E := (intE .i64)) (vs := [(0, .int .i64 266), (1, .int .i64 40), (2, .int .i64 233), (3, .int .i64 489), (4, .int .i64 21), (5, .int .i64 149), (6, .int .i64 84), (7, .int .i64 214)]) (xs := ([266, 40, 233, 489, 21, 149, 84, 214] : List Int)) hp815 (.cons rfl (.cons rfl (.cons rfl (.cons rfl (.cons rfl (.cons rfl (.cons rfl (.cons rfl .nil)))))))) Try.runUnderlying54 Try.sizeOf3 (by intro w_; kernel_rfl) rfl rfl rfl (by kernel_rfl) rfl (fun A817 c818 w819 X820 hp821 O822 => ?_)
      obtain ⟨r826, hx1021, H⟩ := bindSome H
      refine s_call (.cons (tm rfl rfl) (.cons (tm rfl rfl) (.cons (tm rfl rfl) .nil))) Try.call20 (selvageref15_pick.calls k a0.Op A811 c812 ([6, 7, 8, 9, 12, 13, 14, 15] : List Int) A817 c818 ([266, 40, 233, 489, 21, 149, 84, 214] : List Int) r826 _ (RdS.any (O816.rd hp821 (i := 2) rfl)) (RdS.any (O822.rd hp821 (i := 3) rfl)) hx1021) rfl ?_
      rintro v_ w823 ⟨rfl, hb824⟩
      have hp825 := hp821.grow hb824
      refine sv (v := .int .i64 r826) rfl rfl rfl (e_assign (tm rfl rfl)) ?_
      refine k_nil ?_
      refine k_seq ?_
      refine k_region ?_
      refine sv (v := .int .i64 0) rfl rfl rfl (e_assign rfl) ?_
      refine k_nil ?_
      refine k_seq ?_
      refine k_seq ?_
      refine k_region ?_
      refine sv (v := .pointer (some ⟨b1, 0, none⟩)) rfl rfl rfl (e_fieldAddr (tm rfl rfl) Try.runUnderlying23 rfl Try.sizeOf3 rfl rfl) ?_
      refine sv (v := .int .i64 a0.Op) rfl rfl rfl (e_load1 (tm rfl rfl) Try.isAgg3 (cell_at (hp825.get (i := 0) (j := 0) rfl rfl) rfl)) ?_
      refine sv (v := .bool (decide (a0.Op = 15))) rfl rfl rfl (e_bin (tm rfl rfl) rfl (r_eql rfl)) ?_
      refine k_nil ?_
      obtain ⟨o827, H, G828⟩ := bindSome H
      refine k_cut (fun a w' => ∃ (σ1024 : Nat → Value), a = st 308 [(1, .pointer (some ⟨b1, 0, none⟩)), (10, .pointer (some ⟨b62, 0, none⟩)), (11, .int .i64 r826), (12, .int .i64 o827)] σ1024 [] ∧ Hp0 w w' [[(b1, .cells #[.int .i64 a0.Op, .int .i64 a0.T, .int .i64 a0.A, .int .i64 a0.B, .int .i64 a0.Imm] 23 (0, 0))], [(b62, .cells #[.int .u32 0, .int .i64 0] 51 (0, 0))]]) ?_ ?_
      · refine k_if (tm rfl rfl) (fun h829 => ?_) (fun h829 => ?_)
        · have H := ift h829 H
          refine k_region ?_
          refine sv (v := .int .i64 1) rfl rfl rfl (e_assign rfl) ?_
          refine k_nil ?_
          obtain rfl := Option.some.inj H
          exact ⟨_, seenF ⟨rfl, rfl, rfl, rfl, trivial⟩, hp825.pick [0, 1] (by decide) rfl⟩
        have H := iff_ h829 H
        refine k_skip ?_
        obtain rfl := Option.some.inj H
        exact ⟨_, seenF ⟨rfl, rfl, rfl, rfl, trivial⟩, hp825.pick [0, 1] (by decide) rfl⟩
      clear H
      rintro a w' ⟨σ833, rfl, hp831⟩
      have H := G828
      obtain ⟨r853, hx854, H⟩ := bindSome H
      obtain ⟨r888, hx889, H⟩ := bindSome H
      obtain ⟨r923, hx924, H⟩ := bindSome H
      obtain ⟨r958, hx959, H⟩ := bindSome H
      obtain ⟨r983, hx984, H⟩ := bindSome H
      obtain ⟨r1008, hx1009, H⟩ := bindSome H
      refine k_drawn [(1, .pointer (some ⟨b1, 0, none⟩)), (10, .pointer (some ⟨b62, 0, none⟩)), (11, .int .i64 r826), (12, .int .i64 o827)] 15 [⟨220, fun v w' => v = .agg #[.int .u32 0, .int .i64 0]⟩, ⟨221, fun v w' => v = .agg #[.int .u32 r853.w, .int .i64 r853.bits]⟩, ⟨222, fun v w' => v = .pointer (some ⟨b1, 1, none⟩)⟩, ⟨223, fun v w' => v = .int .i64 a0.T⟩, ⟨224, fun v w' => v = .agg #[.int .u32 r888.w, .int .i64 r888.bits]⟩, ⟨225, fun v w' => v = .pointer (some ⟨b1, 2, none⟩)⟩, ⟨226, fun v w' => v = .int .i64 a0.A⟩, ⟨227, fun v w' => v = .agg #[.int .u32 r923.w, .int .i64 r923.bits]⟩, ⟨228, fun v w' => v = .pointer (some ⟨b1, 3, none⟩)⟩, ⟨229, fun v w' => v = .int .i64 a0.B⟩, ⟨230, fun v w' => v = .agg #[.int .u32 r958.w, .int .i64 r958.bits]⟩, ⟨231, fun v w' => v = .int .i64 r826⟩, ⟨232, fun v w' => v = .agg #[.int .u32 r983.w, .int .i64 r983.bits]⟩, ⟨233, fun v w' => v = .int .i64 o827⟩, ⟨234, fun v w' => v = .agg #[.int .u32 r1008.w, .int .i64 r1008.bits]⟩] ⟨rfl, rfl, rfl, rfl, trivial⟩ mixed rfl rfl rfl (by kernel_rfl) (by kernel_rfl) ?_ ?_
      · refine .cons [] rfl rfl rfl (by kernel_rfl) ?_ ?_
        · rintro σ839 w834 hb835 -
          have hp837 := hp831.grow hb835
          have hp838 := Hp.start w834
          refine sv (v := .agg #[.int .u32 0, .int .i64 0]) rfl rfl rfl (e_loadA (tm rfl rfl) Try.isAgg51 Try.sizeOf51 rfl (cells_box (sz := 2) (hp837.get (i := 1) (j := 0) rfl rfl) rfl)) ?_
          refine k_nil ?_
          exact ⟨_, rfl, below_refl _, rfl⟩
        refine .cons [0] rfl rfl rfl (by kernel_rfl) ?_ ?_
        · rintro σ845 w840 hb841 ⟨⟨u846, hu847, hv848, f849⟩, -⟩
          have hp843 := hp831.grow hb841
          have hp844 := Hp.start w840
          refine s_call (.cons (tm rfl f849) (.cons rfl (.cons rfl .nil))) Try.call19 (selvageref15_word_put.calls k (⟨0, 0⟩ : selvageref15_word) 31 6 r853 _ hx854) rfl ?_
          rintro v_ w850 ⟨rfl, hb851⟩
          have hp852 := hp844.grow hb851
          refine k_nil ?_
          exact ⟨_, rfl, hp852.below, rfl⟩
        refine .cons [] rfl rfl rfl (by kernel_rfl) ?_ ?_
        · rintro σ860 w855 hb856 -
          have hp858 := hp831.grow hb856
          have hp859 := Hp.start w855
          refine sv (v := .pointer (some ⟨b1, 1, none⟩)) rfl rfl rfl (e_fieldAddr (tm rfl rfl) Try.runUnderlying23 rfl Try.sizeOf3 rfl rfl) ?_
          refine k_nil ?_
          exact ⟨_, rfl, below_refl _, rfl⟩
        refine .cons [2] rfl rfl rfl (by kernel_rfl) ?_ ?_
        · rintro σ866 w861 hb862 ⟨⟨u867, hu868, hv869, f870⟩, -⟩
          have hp864 := hp831.grow hb862
          have hp865 := Hp.start w861
          refine sv (v := .int .i64 a0.T) rfl rfl rfl (e_load1 (tm rfl f870) Try.isAgg3 (cell_at (hp864.get (i := 0) (j := 0) rfl rfl) rfl)) ?_
          refine k_nil ?_
          exact ⟨_, rfl, below_refl _, rfl⟩
        refine .cons [1, 3] rfl rfl rfl (by kernel_rfl) ?_ ?_
        · rintro σ876 w871 hb872 ⟨⟨u877, hu878, hv879, f880⟩, ⟨u881, hu882, hv883, f884⟩, -⟩
          have hp874 := hp831.grow hb872
          have hp875 := Hp.start w871
          refine s_call (.cons (tm rfl f880) (.cons (tm rfl f884) (.cons rfl .nil))) Try.call19 (selvageref15_word_put.calls k r853 a0.T 5 r888 _ hx889) rfl ?_
          rintro v_ w885 ⟨rfl, hb886⟩
          have hp887 := hp875.grow hb886
          refine k_nil ?_
          exact ⟨_, rfl, hp887.below, rfl⟩
        refine .cons [] rfl rfl rfl (by kernel_rfl) ?_ ?_
        · rintro σ895 w890 hb891 -
          have hp893 := hp831.grow hb891
          have hp894 := Hp.start w890
          refine sv (v := .pointer (some ⟨b1, 2, none⟩)) rfl rfl rfl (e_fieldAddr (tm rfl rfl) Try.runUnderlying23 rfl Try.sizeOf3 rfl rfl) ?_
          refine k_nil ?_
          exact ⟨_, rfl, below_refl _, rfl⟩
        refine .cons [5] rfl rfl rfl (by kernel_rfl) ?_ ?_
        · rintro σ901 w896 hb897 ⟨⟨u902, hu903, hv904, f905⟩, -⟩
          have hp899 := hp831.grow hb897
          have hp900 := Hp.start w896
          refine sv (v := .int .i64 a0.A) rfl rfl rfl (e_load1 (tm rfl f905) Try.isAgg3 (cell_at (hp899.get (i := 0) (j := 0) rfl rfl) rfl)) ?_
          refine k_nil ?_
          exact ⟨_, rfl, below_refl _, rfl⟩
        refine .cons [4, 6] rfl rfl rfl (by kernel_rfl) ?_ ?_
        · rintro σ911 w906 hb907 ⟨⟨u912, hu913, hv914, f915⟩, ⟨u916, hu917, hv918, f919⟩, -⟩
          have hp909 := hp831.grow hb907
          have hp910 := Hp.start w906
          refine s_call (.cons (tm rfl f915) (.cons (tm rfl f919) (.cons rfl .nil))) Try.call19 (selvageref15_word_put.calls k r888 a0.A 5 r923 _ hx924) rfl ?_
          rintro v_ w920 ⟨rfl, hb921⟩
          have hp922 := hp910.grow hb921
          refine k_nil ?_
          exact ⟨_, rfl, hp922.below, rfl⟩
        refine .cons [] rfl rfl rfl (by kernel_rfl) ?_ ?_
        · rintro σ930 w925 hb926 -
          have hp928 := hp831.grow hb926
          have hp929 := Hp.start w925
          refine sv (v := .pointer (some ⟨b1, 3, none⟩)) rfl rfl rfl (e_fieldAddr (tm rfl rfl) Try.runUnderlying23 rfl Try.sizeOf3 rfl rfl) ?_
          refine k_nil ?_
          exact ⟨_, rfl, below_refl _, rfl⟩
        refine .cons [8] rfl rfl rfl (by kernel_rfl) ?_ ?_
        · rintro σ936 w931 hb932 ⟨⟨u937, hu938, hv939, f940⟩, -⟩
          have hp934 := hp831.grow hb932
          have hp935 := Hp.start w931
          refine sv (v := .int .i64 a0.B) rfl rfl rfl (e_load1 (tm rfl f940) Try.isAgg3 (cell_at (hp934.get (i := 0) (j := 0) rfl rfl) rfl)) ?_
          refine k_nil ?_
          exact ⟨_, rfl, below_refl _, rfl⟩
        refine .cons [7, 9] rfl rfl rfl (by kernel_rfl) ?_ ?_
        · rintro σ946 w941 hb942 ⟨⟨u947, hu948, hv949, f950⟩, ⟨u951, hu952, hv953, f954⟩, -⟩
          have hp944 := hp831.grow hb942
          have hp945 := Hp.start w941
          refine s_call (.cons (tm rfl f950) (.cons (tm rfl f954) (.cons rfl .nil))) Try.call19 (selvageref15_word_put.calls k r923 a0.B 5 r958 _ hx959) rfl ?_
          rintro v_ w955 ⟨rfl, hb956⟩
          have hp957 := hp945.grow hb956
          refine k_nil ?_
          exact ⟨_, rfl, hp957.below, rfl⟩
        refine .cons [] rfl rfl rfl (by kernel_rfl) ?_ ?_
        · rintro σ965 w960 hb961 -
          have hp963 := hp831.grow hb961
          have hp964 := Hp.start w960
          refine sv (v := .int .i64 r826) rfl rfl rfl (e_move (tm rfl rfl)) ?_
          refine k_nil ?_
          exact ⟨_, rfl, below_refl _, rfl⟩
        refine .cons [10, 11] rfl rfl rfl (by kernel_rfl) ?_ ?_
        · rintro σ971 w966 hb967 ⟨⟨u972, hu973, hv974, f975⟩, ⟨u976, hu977, hv978, f979⟩, -⟩
          have hp969 := hp831.grow hb967
          have hp970 := Hp.start w966
          refine s_call (.cons (tm rfl f975) (.cons (tm rfl f979) (.cons rfl .nil))) Try.call19 (selvageref15_word_put.calls k r958 r826 10 r983 _ hx984) rfl ?_
          rintro v_ w980 ⟨rfl, hb981⟩
          have hp982 := hp970.grow hb981
          refine k_nil ?_
          exact ⟨_, rfl, hp982.below, rfl⟩
        refine .cons [] rfl rfl rfl (by kernel_rfl) ?_ ?_
        · rintro σ990 w985 hb986 -
          have hp988 := hp831.grow hb986
          have hp989 := Hp.start w985
          refine sv (v := .int .i64 o827) rfl rfl rfl (e_move (tm rfl rfl)) ?_
          refine k_nil ?_
          exact ⟨_, rfl, below_refl _, rfl⟩
        refine .cons [12, 13] rfl rfl rfl (by kernel_rfl) ?_ ?_
        · rintro σ996 w991 hb992 ⟨⟨u997, hu998, hv999, f1000⟩, ⟨u1001, hu1002, hv1003, f1004⟩, -⟩
          have hp994 := hp831.grow hb992
          have hp995 := Hp.start w991
          refine s_call (.cons (tm rfl f1000) (.cons (tm rfl f1004) (.cons rfl .nil))) Try.call19 (selvageref15_word_put.calls k r983 o827 1 r1008 _ hx1009) rfl ?_
          rintro v_ w1005 ⟨rfl, hb1006⟩
          have hp1007 := hp995.grow hb1006
          refine k_nil ?_
          exact ⟨_, rfl, hp1007.below, rfl⟩
        exact .nil
      rintro σ1013 w1010 hb1011 ⟨-, -, -, -, -, -, -, -, -, -, -, -, -, -, ⟨u1014, hu1015, hv1016, f1017⟩, -⟩
      have hp1012 := hp831.grow hb1011
      refine seenR [(234, .agg #[.int .u32 r1008.w, .int .i64 r1008.bits]), (1, .pointer (some ⟨b1, 0, none⟩)), (10, .pointer (some ⟨b62, 0, none⟩)), (11, .int .i64 r826), (12, .int .i64 o827)] ⟨f1017, rfl, rfl, rfl, rfl, trivial⟩ ?_
      refine s_store (i := 1) (j := 0) (vs := [.int .u32 r1008.w, .int .i64 r1008.bits]) (l' := [.int .u32 r1008.w, .int .i64 r1008.bits]) hp1012 (tm rfl rfl) (tm rfl rfl) rfl Try.sizeOf51 rfl rfl rfl rfl rfl rfl (fun w1018 hp1019 => ?_)
      refine k_nil ?_
      obtain rfl := Option.some.inj H
      exact ⟨(r1008.w, r1008.bits), _, b62, rfl, seenF ⟨rfl, trivial⟩, hp1019.pick [1] (by decide) rfl⟩
    have H := iff_ h810 H
    refine k_seq ?_
    refine k_region ?_
    refine sv (v := .bool (decide (r7 = 5))) rfl rfl rfl (e_bin (tm rfl rfl) rfl (r_eql rfl)) ?_
    refine sv (v := .bool (decide (r7 = 5))) rfl rfl rfl (e_assign (tm rfl rfl)) ?_
    refine k_nil ?_
    refine k_if (tm rfl rfl) (fun h1022 => ?_) (fun h1022 => ?_)
    · have H := ift h1022 H
      obtain ⟨r1100, hx1101, H⟩ := bindSome H
      obtain ⟨r1119, hx1120, H⟩ := bindSome H
      obtain ⟨r1154, hx1155, H⟩ := bindSome H
      obtain ⟨r1189, hx1190, H⟩ := bindSome H
      obtain ⟨r1234, hx1235, H⟩ := bindSome H
      obtain ⟨r1249, hx1250, H⟩ := bindSome H
      refine k_drawn [(1, .pointer (some ⟨b1, 0, none⟩)), (10, .pointer (some ⟨b62, 0, none⟩))] 18 [⟨237, fun v w' => v = .agg #[.int .u32 0, .int .i64 0]⟩, ⟨238, fun v w' => v = .pointer (some ⟨b1, 0, none⟩)⟩, ⟨239, fun v w' => v = .int .i64 a0.Op⟩, ⟨240, fun v w' => ∃ (A_ : Option Addr) (c_ : Nat) (X_ : Rsc), v = .slice A_ (([10, 11] : List Int).length) c_ ∧ Own (intE .i64) 3 A_ c_ ([10, 11] : List Int) X_ ∧ Fresh w65 w' X_⟩, ⟨241, fun v w' => ∃ (A_ : Option Addr) (c_ : Nat) (X_ : Rsc), v = .slice A_ (([58, 62] : List Int).length) c_ ∧ Own (intE .i64) 3 A_ c_ ([58, 62] : List Int) X_ ∧ Fresh w65 w' X_⟩, ⟨242, fun v w' => v = .int .i64 r1100⟩, ⟨243, fun v w' => v = .agg #[.int .u32 r1119.w, .int .i64 r1119.bits]⟩, ⟨244, fun v w' => v = .pointer (some ⟨b1, 1, none⟩)⟩, ⟨245, fun v w' => v = .int .i64 a0.T⟩, ⟨246, fun v w' => v = .agg #[.int .u32 r1154.w, .int .i64 r1154.bits]⟩, ⟨247, fun v w' => v = .pointer (some ⟨b1, 2, none⟩)⟩, ⟨248, fun v w' => v = .int .i64 a0.A⟩, ⟨249, fun v w' => v = .agg #[.int .u32 r1189.w, .int .i64 r1189.bits]⟩, ⟨250, fun v w' => v = .pointer (some ⟨b1, 4, none⟩)⟩, ⟨251, fun v w' => v = .int .i64 a0.Imm⟩, ⟨252, fun v w' => v = .int .i64 (wrap64 (Int.tdiv a0.Imm 4))⟩, ⟨253, fun v w' => v = .agg #[.int .u32 r1234.w, .int .i64 r1234.bits]⟩, ⟨254, fun v w' => v = .agg #[.int .u32 r1249.w, .int .i64 r1249.bits]⟩] ⟨rfl, rfl, trivial⟩ mixed rfl rfl rfl (by kernel_rfl) (by kernel_rfl) ?_ ?_
      · refine .cons [] rfl rfl rfl (by kernel_rfl) ?_ ?_
        · rintro σ1028 w1023 hb1024 -
          have hp1026 := hp66.grow hb1024
          have hp1027 := Hp.start w1023
          refine sv (v := .agg #[.int .u32 0, .int .i64 0]) rfl rfl rfl (e_loadA (tm rfl rfl) Try.isAgg51 Try.sizeOf51 rfl (cells_box (sz := 2) (hp1026.get (i := 1) (j := 0) rfl rfl) rfl)) ?_
          refine k_nil ?_
          exact ⟨_, rfl, below_refl _, rfl⟩
        refine .cons [] rfl rfl rfl (by kernel_rfl) ?_ ?_
        · rintro σ1034 w1029 hb1030 -
          have hp1032 := hp66.grow hb1030
          have hp1033 := Hp.start w1029
          refine sv (v := .pointer (some ⟨b1, 0, none⟩)) rfl rfl rfl (e_fieldAddr (tm rfl rfl) Try.runUnderlying23 rfl Try.sizeOf3 rfl rfl) ?_
          refine k_nil ?_
          exact ⟨_, rfl, below_refl _, rfl⟩
        refine .cons [1] rfl rfl rfl (by kernel_rfl) ?_ ?_
        · rintro σ1040 w1035 hb1036 ⟨⟨u1041, hu1042, hv1043, f1044⟩, -⟩
          have hp1038 := hp66.grow hb1036
          have hp1039 := Hp.start w1035
          refine sv (v := .int .i64 a0.Op) rfl rfl rfl (e_load1 (tm rfl f1044) Try.isAgg3 (cell_at (hp1038.get (i := 0) (j := 0) rfl rfl) rfl)) ?_
          refine k_nil ?_
          exact ⟨_, rfl, below_refl _, rfl⟩
        refine .cons [] rfl rfl rfl (by kernel_rfl) ?_ ?_
        · rintro σ1050 w1045 hb1046 -
          have hp1048 := hp66.grow hb1046
          have hp1049 := Hp.start w1045
          refine s_buildSlice (zv := .int .i64 0) (E := (intE .i64)) (vs := [(0, .int .i64 10), (1, .int .i64 11)]) (xs := ([10, 11] : List Int)) hp1049 (.cons rfl (.cons rfl .nil)) Try.runUnderlying54 Try.sizeOf3 (by intro w_; kernel_rfl) rfl rfl rfl (by kernel_rfl) rfl (fun A1051 c1052 w1053 X1054 hp1055 O1056 => ?_)
          refine k_nil ?_
          exact ⟨_, rfl, hp1055.below, ⟨A1051, c1052, X1054, rfl, O1056, Fresh.back (hp1055.fresh0 (i := 0) rfl) hb1046⟩⟩
        refine .cons [] rfl rfl rfl (by kernel_rfl) ?_ ?_
        · rintro σ1062 w1057 hb1058 -
          have hp1060 := hp66.grow hb1058
          have hp1061 := Hp.start w1057
          refine s_buildSlice (zv := .int .i64 0) (E := (intE .i64)) (vs := [(0, .int .i64 58), (1, .int .i64 62)]) (xs := ([58, 62] : List Int)) hp1061 (.cons rfl (.cons rfl .nil)) Try.runUnderlying54 Try.sizeOf3 (by intro w_; kernel_rfl) rfl rfl rfl (by kernel_rfl) rfl (fun A1063 c1064 w1065 X1066 hp1067 O1068 => ?_)
          refine k_nil ?_
          exact ⟨_, rfl, hp1067.below, ⟨A1063, c1064, X1066, rfl, O1068, Fresh.back (hp1067.fresh0 (i := 0) rfl) hb1058⟩⟩
        refine .cons [2, 3, 4] rfl rfl rfl (by kernel_rfl) ?_ ?_
        · rintro σ1074 w1069 hb1070 ⟨⟨u1075, hu1076, hv1077, f1078⟩, ⟨u1079, hu1080, hv1081, A1083, c1084, X1085, f1082, O1086, Fr1087⟩, ⟨u1088, hu1089, hv1090, A1092, c1093, X1094, f1091, O1095, Fr1096⟩, -⟩
          have hp1072 := hp66.grow hb1070
          have hp1073 := Hp.start w1069
          refine s_call (.cons (tm rfl f1078) (.cons (tm rfl f1082) (.cons (tm rfl f1091) .nil))) Try.call20 (selvageref15_pick.calls k a0.Op A1083 c1084 ([10, 11] : List Int) A1092 c1093 ([58, 62] : List Int) r1100 _ (RdS.any (O1086.rd ((Hp.start w65).adopt hb1070 (Fr1087.up hv1081)) (i := 0) rfl)) (RdS.any (O1095.rd ((Hp.start w65).adopt hb1070 (Fr1096.up hv1090)) (i := 0) rfl)) hx1101) rfl ?_
          rintro v_ w1097 ⟨rfl, hb1098⟩
          have hp1099 := hp1073.grow hb1098
          refine k_nil ?_
          exact ⟨_, rfl, hp1099.below, rfl⟩
        refine .cons [0, 5] rfl rfl rfl (by kernel_rfl) ?_ ?_
        · rintro σ1107 w1102 hb1103 ⟨⟨u1108, hu1109, hv1110, f1111⟩, ⟨u1112, hu1113, hv1114, f1115⟩, -⟩
          have hp1105 := hp66.grow hb1103
          have hp1106 := Hp.start w1102
          refine s_call (.cons (tm rfl f1111) (.cons (tm rfl f1115) (.cons rfl .nil))) Try.call19 (selvageref15_word_put.calls k (⟨0, 0⟩ : selvageref15_word) r1100 6 r1119 _ hx1120) rfl ?_
          rintro v_ w1116 ⟨rfl, hb1117⟩
          have hp1118 := hp1106.grow hb1117
          refine k_nil ?_
          exact ⟨_, rfl, hp1118.below, rfl⟩
        refine .cons [] rfl rfl rfl (by kernel_rfl) ?_ ?_
        · rintro σ1126 w1121 hb1122 -
          have hp1124 := hp66.grow hb1122
          have hp1125 := Hp.start w1121
          refine sv (v := .pointer (some ⟨b1, 1, none⟩)) rfl rfl rfl (e_fieldAddr (tm rfl rfl) Try.runUnderlying23 rfl Try.sizeOf3 rfl rfl) ?_
          refine k_nil ?_
          exact ⟨_, rfl, below_refl _, rfl⟩
        refine .cons [7] rfl rfl rfl (by kernel_rfl) ?_ ?_
        · rintro σ1132 w1127 hb1128 ⟨⟨u1133, hu1134, hv1135, f1136⟩, -⟩
          have hp1130 := hp66.grow hb1128
          have hp1131 := Hp.start w1127
          refine sv (v := .int .i64 a0.T) rfl rfl rfl (e_load1 (tm rfl f1136) Try.isAgg3 (cell_at (hp1130.get (i := 0) (j := 0) rfl rfl) rfl)) ?_
          refine k_nil ?_
          exact ⟨_, rfl, below_refl _, rfl⟩
        refine .cons [6, 8] rfl rfl rfl (by kernel_rfl) ?_ ?_
        · rintro σ1142 w1137 hb1138 ⟨⟨u1143, hu1144, hv1145, f1146⟩, ⟨u1147, hu1148, hv1149, f1150⟩, -⟩
          have hp1140 := hp66.grow hb1138
          have hp1141 := Hp.start w1137
          refine s_call (.cons (tm rfl f1146) (.cons (tm rfl f1150) (.cons rfl .nil))) Try.call19 (selvageref15_word_put.calls k r1119 a0.T 5 r1154 _ hx1155) rfl ?_
          rintro v_ w1151 ⟨rfl, hb1152⟩
          have hp1153 := hp1141.grow hb1152
          refine k_nil ?_
          exact ⟨_, rfl, hp1153.below, rfl⟩
        refine .cons [] rfl rfl rfl (by kernel_rfl) ?_ ?_
        · rintro σ1161 w1156 hb1157 -
          have hp1159 := hp66.grow hb1157
          have hp1160 := Hp.start w1156
          refine sv (v := .pointer (some ⟨b1, 2, none⟩)) rfl rfl rfl (e_fieldAddr (tm rfl rfl) Try.runUnderlying23 rfl Try.sizeOf3 rfl rfl) ?_
          refine k_nil ?_
          exact ⟨_, rfl, below_refl _, rfl⟩
        refine .cons [10] rfl rfl rfl (by kernel_rfl) ?_ ?_
        · rintro σ1167 w1162 hb1163 ⟨⟨u1168, hu1169, hv1170, f1171⟩, -⟩
          have hp1165 := hp66.grow hb1163
          have hp1166 := Hp.start w1162
          refine sv (v := .int .i64 a0.A) rfl rfl rfl (e_load1 (tm rfl f1171) Try.isAgg3 (cell_at (hp1165.get (i := 0) (j := 0) rfl rfl) rfl)) ?_
          refine k_nil ?_
          exact ⟨_, rfl, below_refl _, rfl⟩
        refine .cons [9, 11] rfl rfl rfl (by kernel_rfl) ?_ ?_
        · rintro σ1177 w1172 hb1173 ⟨⟨u1178, hu1179, hv1180, f1181⟩, ⟨u1182, hu1183, hv1184, f1185⟩, -⟩
          have hp1175 := hp66.grow hb1173
          have hp1176 := Hp.start w1172
          refine s_call (.cons (tm rfl f1181) (.cons (tm rfl f1185) (.cons rfl .nil))) Try.call19 (selvageref15_word_put.calls k r1154 a0.A 5 r1189 _ hx1190) rfl ?_
          rintro v_ w1186 ⟨rfl, hb1187⟩
          have hp1188 := hp1176.grow hb1187
          refine k_nil ?_
          exact ⟨_, rfl, hp1188.below, rfl⟩
        refine .cons [] rfl rfl rfl (by kernel_rfl) ?_ ?_
        · rintro σ1196 w1191 hb1192 -
          have hp1194 := hp66.grow hb1192
          have hp1195 := Hp.start w1191
          refine sv (v := .pointer (some ⟨b1, 4, none⟩)) rfl rfl rfl (e_fieldAddr (tm rfl rfl) Try.runUnderlying23 rfl Try.sizeOf3 rfl rfl) ?_
          refine k_nil ?_
          exact ⟨_, rfl, below_refl _, rfl⟩
        refine .cons [13] rfl rfl rfl (by kernel_rfl) ?_ ?_
        · rintro σ1202 w1197 hb1198 ⟨⟨u1203, hu1204, hv1205, f1206⟩, -⟩
          have hp1200 := hp66.grow hb1198
          have hp1201 := Hp.start w1197
          refine sv (v := .int .i64 a0.Imm) rfl rfl rfl (e_load1 (tm rfl f1206) Try.isAgg3 (cell_at (hp1200.get (i := 0) (j := 0) rfl rfl) rfl)) ?_
          refine k_nil ?_
          exact ⟨_, rfl, below_refl _, rfl⟩
        refine .cons [14] rfl rfl rfl (by kernel_rfl) ?_ ?_
        · rintro σ1212 w1207 hb1208 ⟨⟨u1213, hu1214, hv1215, f1216⟩, -⟩
          have hp1210 := hp66.grow hb1208
          have hp1211 := Hp.start w1207
          refine sv (v := .int .i64 (wrap64 (Int.tdiv a0.Imm 4))) rfl rfl rfl (e_bin (tm rfl f1216) rfl (r_div (op := .not) (by decide) (wrap_i64 _))) ?_
          refine k_nil ?_
          exact ⟨_, rfl, below_refl _, rfl⟩
        refine .cons [12, 15] rfl rfl rfl (by kernel_rfl) ?_ ?_
        · rintro σ1222 w1217 hb1218 ⟨⟨u1223, hu1224, hv1225, f1226⟩, ⟨u1227, hu1228, hv1229, f1230⟩, -⟩
          have hp1220 := hp66.grow hb1218
          have hp1221 := Hp.start w1217
          refine s_call (.cons (tm rfl f1226) (.cons (tm rfl f1230) (.cons rfl .nil))) Try.call19 (selvageref15_word_put.calls k r1189 (wrap64 (Int.tdiv a0.Imm 4)) 14 r1234 _ hx1235) rfl ?_
          rintro v_ w1231 ⟨rfl, hb1232⟩
          have hp1233 := hp1221.grow hb1232
          refine k_nil ?_
          exact ⟨_, rfl, hp1233.below, rfl⟩
        refine .cons [16] rfl rfl rfl (by kernel_rfl) ?_ ?_
        · rintro σ1241 w1236 hb1237 ⟨⟨u1242, hu1243, hv1244, f1245⟩, -⟩
          have hp1239 := hp66.grow hb1237
          have hp1240 := Hp.start w1236
          refine s_call (.cons (tm rfl f1245) (.cons rfl (.cons rfl .nil))) Try.call19 (selvageref15_word_put.calls k r1234 0 2 r1249 _ hx1250) rfl ?_
          rintro v_ w1246 ⟨rfl, hb1247⟩
          have hp1248 := hp1240.grow hb1247
          refine k_nil ?_
          exact ⟨_, rfl, hp1248.below, rfl⟩
        exact .nil
      rintro σ1254 w1251 hb1252 ⟨-, -, -, -, -, -, -, -, -, -, -, -, -, -, -, -, -, ⟨u1255, hu1256, hv1257, f1258⟩, -⟩
      have hp1253 := hp66.grow hb1252
      refine seenR [(254, .agg #[.int .u32 r1249.w, .int .i64 r1249.bits]), (1, .pointer (some ⟨b1, 0, none⟩)), (10, .pointer (some ⟨b62, 0, none⟩))] ⟨f1258, rfl, rfl, trivial⟩ ?_
      refine s_store (i := 1) (j := 0) (vs := [.int .u32 r1249.w, .int .i64 r1249.bits]) (l' := [.int .u32 r1249.w, .int .i64 r1249.bits]) hp1253 (tm rfl rfl) (tm rfl rfl) rfl Try.sizeOf51 rfl rfl rfl rfl rfl rfl (fun w1259 hp1260 => ?_)
      refine k_nil ?_
      obtain rfl := Option.some.inj H
      exact ⟨(r1249.w, r1249.bits), _, b62, rfl, seenF ⟨rfl, trivial⟩, hp1260.pick [1] (by decide) rfl⟩
    have H := iff_ h1022 H
    refine k_seq ?_
    refine k_region ?_
    refine sv (v := .bool (decide (r7 = 6))) rfl rfl rfl (e_bin (tm rfl rfl) rfl (r_eql rfl)) ?_
    refine sv (v := .bool (decide (r7 = 6))) rfl rfl rfl (e_assign (tm rfl rfl)) ?_
    refine k_nil ?_
    refine k_if (tm rfl rfl) (fun h1261 => ?_) (fun h1261 => ?_)
    · have H := ift h1261 H
      obtain ⟨r1281, hx1282, H⟩ := bindSome H
      obtain ⟨r1296, hx1297, H⟩ := bindSome H
      obtain ⟨r1331, hx1332, H⟩ := bindSome H
      obtain ⟨r1366, hx1367, H⟩ := bindSome H
      obtain ⟨r1381, hx1382, H⟩ := bindSome H
      refine k_drawn [(1, .pointer (some ⟨b1, 0, none⟩)), (10, .pointer (some ⟨b62, 0, none⟩))] 10 [⟨257, fun v w' => v = .agg #[.int .u32 0, .int .i64 0]⟩, ⟨258, fun v w' => v = .agg #[.int .u32 r1281.w, .int .i64 r1281.bits]⟩, ⟨259, fun v w' => v = .agg #[.int .u32 r1296.w, .int .i64 r1296.bits]⟩, ⟨260, fun v w' => v = .pointer (some ⟨b1, 2, none⟩)⟩, ⟨261, fun v w' => v = .int .i64 a0.A⟩, ⟨262, fun v w' => v = .agg #[.int .u32 r1331.w, .int .i64 r1331.bits]⟩, ⟨263, fun v w' => v = .pointer (some ⟨b1, 3, none⟩)⟩, ⟨264, fun v w' => v = .int .i64 a0.B⟩, ⟨265, fun v w' => v = .agg #[.int .u32 r1366.w, .int .i64 r1366.bits]⟩, ⟨266, fun v w' => v = .agg #[.int .u32 r1381.w, .int .i64 r1381.bits]⟩] ⟨rfl, rfl, trivial⟩ mixed rfl rfl rfl (by kernel_rfl) (by kernel_rfl) ?_ ?_
      · refine .cons [] rfl rfl rfl (by kernel_rfl) ?_ ?_
        · rintro σ1267 w1262 hb1263 -
          have hp1265 := hp66.grow hb1263
          have hp1266 := Hp.start w1262
          refine sv (v := .agg #[.int .u32 0, .int .i64 0]) rfl rfl rfl (e_loadA (tm rfl rfl) Try.isAgg51 Try.sizeOf51 rfl (cells_box (sz := 2) (hp1265.get (i := 1) (j := 0) rfl rfl) rfl)) ?_
          refine k_nil ?_
          exact ⟨_, rfl, below_refl _, rfl⟩
        refine .cons [0] rfl rfl rfl (by kernel_rfl) ?_ ?_
        · rintro σ1273 w1268 hb1269 ⟨⟨u1274, hu1275, hv1276, f1277⟩, -⟩
          have hp1271 := hp66.grow hb1269
          have hp1272 := Hp.start w1268
          refine s_call (.cons (tm rfl f1277) (.cons rfl (.cons rfl .nil))) Try.call19 (selvageref15_word_put.calls k (⟨0, 0⟩ : selvageref15_word) 31 6 r1281 _ hx1282) rfl ?_
          rintro v_ w1278 ⟨rfl, hb1279⟩
          have hp1280 := hp1272.grow hb1279
          refine k_nil ?_
          exact ⟨_, rfl, hp1280.below, rfl⟩
        refine .cons [1] rfl rfl rfl (by kernel_rfl) ?_ ?_
        · rintro σ1288 w1283 hb1284 ⟨⟨u1289, hu1290, hv1291, f1292⟩, -⟩
          have hp1286 := hp66.grow hb1284
          have hp1287 := Hp.start w1283
          refine s_call (.cons (tm rfl f1292) (.cons rfl (.cons rfl .nil))) Try.call19 (selvageref15_word_put.calls k r1281 1 5 r1296 _ hx1297) rfl ?_
          rintro v_ w1293 ⟨rfl, hb1294⟩
          have hp1295 := hp1287.grow hb1294
          refine k_nil ?_
          exact ⟨_, rfl, hp1295.below, rfl⟩
        refine .cons [] rfl rfl rfl (by kernel_rfl) ?_ ?_
        · rintro σ1303 w1298 hb1299 -
          have hp1301 := hp66.grow hb1299
          have hp1302 := Hp.start w1298
          refine sv (v := .pointer (some ⟨b1, 2, none⟩)) rfl rfl rfl (e_fieldAddr (tm rfl rfl) Try.runUnderlying23 rfl Try.sizeOf3 rfl rfl) ?_
          refine k_nil ?_
          exact ⟨_, rfl, below_refl _, rfl⟩
        refine .cons [3] rfl rfl rfl (by kernel_rfl) ?_ ?_
        · rintro σ1309 w1304 hb1305 ⟨⟨u1310, hu1311, hv1312, f1313⟩, -⟩
          have hp1307 := hp66.grow hb1305
          have hp1308 := Hp.start w1304
          refine sv (v := .int .i64 a0.A) rfl rfl rfl (e_load1 (tm rfl f1313) Try.isAgg3 (cell_at (hp1307.get (i := 0) (j := 0) rfl rfl) rfl)) ?_
          refine k_nil ?_
          exact ⟨_, rfl, below_refl _, rfl⟩
        refine .cons [2, 4] rfl rfl rfl (by kernel_rfl) ?_ ?_
        · rintro σ1319 w1314 hb1315 ⟨⟨u1320, hu1321, hv1322, f1323⟩, ⟨u1324, hu1325, hv1326, f1327⟩, -⟩
          have hp1317 := hp66.grow hb1315
          have hp1318 := Hp.start w1314
          refine s_call (.cons (tm rfl f1323) (.cons (tm rfl f1327) (.cons rfl .nil))) Try.call19 (selvageref15_word_put.calls k r1296 a0.A 5 r1331 _ hx1332) rfl ?_
          rintro v_ w1328 ⟨rfl, hb1329⟩
          have hp1330 := hp1318.grow hb1329
          refine k_nil ?_
          exact ⟨_, rfl, hp1330.below, rfl⟩
        refine .cons [] rfl rfl rfl (by kernel_rfl) ?_ ?_
        · rintro σ1338 w1333 hb1334 -
          have hp1336 := hp66.grow hb1334
          have hp1337 := Hp.start w1333
          refine sv (v := .pointer (some ⟨b1, 3, none⟩)) rfl rfl rfl (e_fieldAddr (tm rfl rfl) Try.runUnderlying23 rfl Try.sizeOf3 rfl rfl) ?_
          refine k_nil ?_
          exact ⟨_, rfl, below_refl _, rfl⟩
        refine .cons [6] rfl rfl rfl (by kernel_rfl) ?_ ?_
        · rintro σ1344 w1339 hb1340 ⟨⟨u1345, hu1346, hv1347, f1348⟩, -⟩
          have hp1342 := hp66.grow hb1340
          have hp1343 := Hp.start w1339
          refine sv (v := .int .i64 a0.B) rfl rfl rfl (e_load1 (tm rfl f1348) Try.isAgg3 (cell_at (hp1342.get (i := 0) (j := 0) rfl rfl) rfl)) ?_
          refine k_nil ?_
          exact ⟨_, rfl, below_refl _, rfl⟩
        refine .cons [5, 7] rfl rfl rfl (by kernel_rfl) ?_ ?_
        · rintro σ1354 w1349 hb1350 ⟨⟨u1355, hu1356, hv1357, f1358⟩, ⟨u1359, hu1360, hv1361, f1362⟩, -⟩
          have hp1352 := hp66.grow hb1350
          have hp1353 := Hp.start w1349
          refine s_call (.cons (tm rfl f1358) (.cons (tm rfl f1362) (.cons rfl .nil))) Try.call19 (selvageref15_word_put.calls k r1331 a0.B 5 r1366 _ hx1367) rfl ?_
          rintro v_ w1363 ⟨rfl, hb1364⟩
          have hp1365 := hp1353.grow hb1364
          refine k_nil ?_
          exact ⟨_, rfl, hp1365.below, rfl⟩
        refine .cons [8] rfl rfl rfl (by kernel_rfl) ?_ ?_
        · rintro σ1373 w1368 hb1369 ⟨⟨u1374, hu1375, hv1376, f1377⟩, -⟩
          have hp1371 := hp66.grow hb1369
          have hp1372 := Hp.start w1368
          refine s_call (.cons (tm rfl f1377) (.cons rfl (.cons rfl .nil))) Try.call19 (selvageref15_word_put.calls k r1366 0 11 r1381 _ hx1382) rfl ?_
          rintro v_ w1378 ⟨rfl, hb1379⟩
          have hp1380 := hp1372.grow hb1379
          refine k_nil ?_
          exact ⟨_, rfl, hp1380.below, rfl⟩
        exact .nil
      rintro σ1386 w1383 hb1384 ⟨-, -, -, -, -, -, -, -, -, ⟨u1387, hu1388, hv1389, f1390⟩, -⟩
      have hp1385 := hp66.grow hb1384
      refine seenR [(266, .agg #[.int .u32 r1381.w, .int .i64 r1381.bits]), (1, .pointer (some ⟨b1, 0, none⟩)), (10, .pointer (some ⟨b62, 0, none⟩))] ⟨f1390, rfl, rfl, trivial⟩ ?_
      refine s_store (i := 1) (j := 0) (vs := [.int .u32 r1381.w, .int .i64 r1381.bits]) (l' := [.int .u32 r1381.w, .int .i64 r1381.bits]) hp1385 (tm rfl rfl) (tm rfl rfl) rfl Try.sizeOf51 rfl rfl rfl rfl rfl rfl (fun w1391 hp1392 => ?_)
      refine k_nil ?_
      obtain rfl := Option.some.inj H
      exact ⟨(r1381.w, r1381.bits), _, b62, rfl, seenF ⟨rfl, trivial⟩, hp1392.pick [1] (by decide) rfl⟩
    have H := iff_ h1261 H
    refine k_seq ?_
    refine k_region ?_
    refine sv (v := .bool (decide (r7 = 7))) rfl rfl rfl (e_bin (tm rfl rfl) rfl (r_eql rfl)) ?_
    refine sv (v := .bool (decide (r7 = 7))) rfl rfl rfl (e_assign (tm rfl rfl)) ?_
    refine k_nil ?_
    refine k_if (tm rfl rfl) (fun h1393 => ?_) (fun h1393 => ?_)
    · have H := ift h1393 H
      obtain ⟨r1413, hx1414, H⟩ := bindSome H
      obtain ⟨r1428, hx1429, H⟩ := bindSome H
      obtain ⟨r1463, hx1464, H⟩ := bindSome H
      obtain ⟨r1498, hx1499, H⟩ := bindSome H
      refine k_drawn [(1, .pointer (some ⟨b1, 0, none⟩)), (10, .pointer (some ⟨b62, 0, none⟩))] 9 [⟨269, fun v w' => v = .agg #[.int .u32 0, .int .i64 0]⟩, ⟨270, fun v w' => v = .agg #[.int .u32 r1413.w, .int .i64 r1413.bits]⟩, ⟨271, fun v w' => v = .agg #[.int .u32 r1428.w, .int .i64 r1428.bits]⟩, ⟨272, fun v w' => v = .pointer (some ⟨b1, 2, none⟩)⟩, ⟨273, fun v w' => v = .int .i64 a0.A⟩, ⟨274, fun v w' => v = .agg #[.int .u32 r1463.w, .int .i64 r1463.bits]⟩, ⟨275, fun v w' => v = .pointer (some ⟨b1, 4, none⟩)⟩, ⟨276, fun v w' => v = .int .i64 a0.Imm⟩, ⟨277, fun v w' => v = .agg #[.int .u32 r1498.w, .int .i64 r1498.bits]⟩] ⟨rfl, rfl, trivial⟩ mixed rfl rfl rfl (by kernel_rfl) (by kernel_rfl) ?_ ?_
      · refine .cons [] rfl rfl rfl (by kernel_rfl) ?_ ?_
        · rintro σ1399 w1394 hb1395 -
          have hp1397 := hp66.grow hb1395
          have hp1398 := Hp.start w1394
          refine sv (v := .agg #[.int .u32 0, .int .i64 0]) rfl rfl rfl (e_loadA (tm rfl rfl) Try.isAgg51 Try.sizeOf51 rfl (cells_box (sz := 2) (hp1397.get (i := 1) (j := 0) rfl rfl) rfl)) ?_
          refine k_nil ?_
          exact ⟨_, rfl, below_refl _, rfl⟩
        refine .cons [0] rfl rfl rfl (by kernel_rfl) ?_ ?_
        · rintro σ1405 w1400 hb1401 ⟨⟨u1406, hu1407, hv1408, f1409⟩, -⟩
          have hp1403 := hp66.grow hb1401
          have hp1404 := Hp.start w1400
          refine s_call (.cons (tm rfl f1409) (.cons rfl (.cons rfl .nil))) Try.call19 (selvageref15_word_put.calls k (⟨0, 0⟩ : selvageref15_word) 11 6 r1413 _ hx1414) rfl ?_
          rintro v_ w1410 ⟨rfl, hb1411⟩
          have hp1412 := hp1404.grow hb1411
          refine k_nil ?_
          exact ⟨_, rfl, hp1412.below, rfl⟩
        refine .cons [1] rfl rfl rfl (by kernel_rfl) ?_ ?_
        · rintro σ1420 w1415 hb1416 ⟨⟨u1421, hu1422, hv1423, f1424⟩, -⟩
          have hp1418 := hp66.grow hb1416
          have hp1419 := Hp.start w1415
          refine s_call (.cons (tm rfl f1424) (.cons rfl (.cons rfl .nil))) Try.call19 (selvageref15_word_put.calls k r1413 1 5 r1428 _ hx1429) rfl ?_
          rintro v_ w1425 ⟨rfl, hb1426⟩
          have hp1427 := hp1419.grow hb1426
          refine k_nil ?_
          exact ⟨_, rfl, hp1427.below, rfl⟩
        refine .cons [] rfl rfl rfl (by kernel_rfl) ?_ ?_
        · rintro σ1435 w1430 hb1431 -
          have hp1433 := hp66.grow hb1431
          have hp1434 := Hp.start w1430
          refine sv (v := .pointer (some ⟨b1, 2, none⟩)) rfl rfl rfl (e_fieldAddr (tm rfl rfl) Try.runUnderlying23 rfl Try.sizeOf3 rfl rfl) ?_
          refine k_nil ?_
          exact ⟨_, rfl, below_refl _, rfl⟩
        refine .cons [3] rfl rfl rfl (by kernel_rfl) ?_ ?_
        · rintro σ1441 w1436 hb1437 ⟨⟨u1442, hu1443, hv1444, f1445⟩, -⟩
          have hp1439 := hp66.grow hb1437
          have hp1440 := Hp.start w1436
          refine sv (v := .int .i64 a0.A) rfl rfl rfl (e_load1 (tm rfl f1445) Try.isAgg3 (cell_at (hp1439.get (i := 0) (j := 0) rfl rfl) rfl)) ?_
          refine k_nil ?_
          exact ⟨_, rfl, below_refl _, rfl⟩
        refine .cons [2, 4] rfl rfl rfl (by kernel_rfl) ?_ ?_
        · rintro σ1451 w1446 hb1447 ⟨⟨u1452, hu1453, hv1454, f1455⟩, ⟨u1456, hu1457, hv1458, f1459⟩, -⟩
          have hp1449 := hp66.grow hb1447
          have hp1450 := Hp.start w1446
          refine s_call (.cons (tm rfl f1455) (.cons (tm rfl f1459) (.cons rfl .nil))) Try.call19 (selvageref15_word_put.calls k r1428 a0.A 5 r1463 _ hx1464) rfl ?_
          rintro v_ w1460 ⟨rfl, hb1461⟩
          have hp1462 := hp1450.grow hb1461
          refine k_nil ?_
          exact ⟨_, rfl, hp1462.below, rfl⟩
        refine .cons [] rfl rfl rfl (by kernel_rfl) ?_ ?_
        · rintro σ1470 w1465 hb1466 -
          have hp1468 := hp66.grow hb1466
          have hp1469 := Hp.start w1465
          refine sv (v := .pointer (some ⟨b1, 4, none⟩)) rfl rfl rfl (e_fieldAddr (tm rfl rfl) Try.runUnderlying23 rfl Try.sizeOf3 rfl rfl) ?_
          refine k_nil ?_
          exact ⟨_, rfl, below_refl _, rfl⟩
        refine .cons [6] rfl rfl rfl (by kernel_rfl) ?_ ?_
        · rintro σ1476 w1471 hb1472 ⟨⟨u1477, hu1478, hv1479, f1480⟩, -⟩
          have hp1474 := hp66.grow hb1472
          have hp1475 := Hp.start w1471
          refine sv (v := .int .i64 a0.Imm) rfl rfl rfl (e_load1 (tm rfl f1480) Try.isAgg3 (cell_at (hp1474.get (i := 0) (j := 0) rfl rfl) rfl)) ?_
          refine k_nil ?_
          exact ⟨_, rfl, below_refl _, rfl⟩
        refine .cons [5, 7] rfl rfl rfl (by kernel_rfl) ?_ ?_
        · rintro σ1486 w1481 hb1482 ⟨⟨u1487, hu1488, hv1489, f1490⟩, ⟨u1491, hu1492, hv1493, f1494⟩, -⟩
          have hp1484 := hp66.grow hb1482
          have hp1485 := Hp.start w1481
          refine s_call (.cons (tm rfl f1490) (.cons (tm rfl f1494) (.cons rfl .nil))) Try.call19 (selvageref15_word_put.calls k r1463 a0.Imm 16 r1498 _ hx1499) rfl ?_
          rintro v_ w1495 ⟨rfl, hb1496⟩
          have hp1497 := hp1485.grow hb1496
          refine k_nil ?_
          exact ⟨_, rfl, hp1497.below, rfl⟩
        exact .nil
      rintro σ1503 w1500 hb1501 ⟨-, -, -, -, -, -, -, -, ⟨u1504, hu1505, hv1506, f1507⟩, -⟩
      have hp1502 := hp66.grow hb1501
      refine seenR [(277, .agg #[.int .u32 r1498.w, .int .i64 r1498.bits]), (1, .pointer (some ⟨b1, 0, none⟩)), (10, .pointer (some ⟨b62, 0, none⟩))] ⟨f1507, rfl, rfl, trivial⟩ ?_
      refine s_store (i := 1) (j := 0) (vs := [.int .u32 r1498.w, .int .i64 r1498.bits]) (l' := [.int .u32 r1498.w, .int .i64 r1498.bits]) hp1502 (tm rfl rfl) (tm rfl rfl) rfl Try.sizeOf51 rfl rfl rfl rfl rfl rfl (fun w1508 hp1509 => ?_)
      refine k_nil ?_
      obtain rfl := Option.some.inj H
      exact ⟨(r1498.w, r1498.bits), _, b62, rfl, seenF ⟨rfl, trivial⟩, hp1509.pick [1] (by decide) rfl⟩
    have H := iff_ h1393 H
    refine k_seq ?_
    refine k_region ?_
    refine sv (v := .bool (decide (r7 = 8))) rfl rfl rfl (e_bin (tm rfl rfl) rfl (r_eql rfl)) ?_
    refine sv (v := .bool (decide (r7 = 8))) rfl rfl rfl (e_assign (tm rfl rfl)) ?_
    refine k_nil ?_
    refine k_if (tm rfl rfl) (fun h1510 => ?_) (fun h1510 => ?_)
    · have H := ift h1510 H
      obtain ⟨r1530, hx1531, H⟩ := bindSome H
      obtain ⟨g1568, H⟩ := grd H
      obtain ⟨r1586, hx1587, H⟩ := bindSome H
      obtain ⟨r1641, hx1642, H⟩ := bindSome H
      obtain ⟨r1686, hx1687, H⟩ := bindSome H
      obtain ⟨r1701, hx1702, H⟩ := bindSome H
      refine k_drawn [(1, .pointer (some ⟨b1, 0, none⟩)), (10, .pointer (some ⟨b62, 0, none⟩))] 17 [⟨280, fun v w' => v = .agg #[.int .u32 0, .int .i64 0]⟩, ⟨281, fun v w' => v = .agg #[.int .u32 r1530.w, .int .i64 r1530.bits]⟩, ⟨282, fun v w' => v = .agg #[.int .i64 12, .int .i64 4, .int .i64 12, .int .i64 4]⟩, ⟨283, fun v w' => v = .pointer (some ⟨b1, 1, none⟩)⟩, ⟨284, fun v w' => v = .int .i64 a0.T⟩, ⟨285, fun v w' => v = .int .i64 (gi (intE .i64) ([12, 4, 12, 4] : List Int) a0.T)⟩, ⟨286, fun v w' => v = .agg #[.int .u32 r1586.w, .int .i64 r1586.bits]⟩, ⟨287, fun v w' => v = .agg #[.int .i64 0, .int .i64 0, .int .i64 2, .int .i64 2]⟩, ⟨288, fun v w' => v = .pointer (some ⟨b1, 1, none⟩)⟩, ⟨289, fun v w' => v = .int .i64 a0.T⟩, ⟨290, fun v w' => v = .int .i64 (gi (intE .i64) ([0, 0, 2, 2] : List Int) a0.T)⟩, ⟨291, fun v w' => v = .agg #[.int .u32 r1641.w, .int .i64 r1641.bits]⟩, ⟨292, fun v w' => v = .pointer (some ⟨b1, 4, none⟩)⟩, ⟨293, fun v w' => v = .int .i64 a0.Imm⟩, ⟨294, fun v w' => v = .int .i64 (wrap64 (Int.tdiv a0.Imm 4))⟩, ⟨295, fun v w' => v = .agg #[.int .u32 r1686.w, .int .i64 r1686.bits]⟩, ⟨296, fun v w' => v = .agg #[.int .u32 r1701.w, .int .i64 r1701.bits]⟩] ⟨rfl, rfl, trivial⟩ mixed rfl rfl rfl (by kernel_rfl) (by kernel_rfl) ?_ ?_
      · refine .cons [] rfl rfl rfl (by kernel_rfl) ?_ ?_
        · rintro σ1516 w1511 hb1512 -
          have hp1514 := hp66.grow hb1512
          have hp1515 := Hp.start w1511
          refine sv (v := .agg #[.int .u32 0, .int .i64 0]) rfl rfl rfl (e_loadA (tm rfl rfl) Try.isAgg51 Try.sizeOf51 rfl (cells_box (sz := 2) (hp1514.get (i := 1) (j := 0) rfl rfl) rfl)) ?_
          refine k_nil ?_
          exact ⟨_, rfl, below_refl _, rfl⟩
        refine .cons [0] rfl rfl rfl (by kernel_rfl) ?_ ?_
        · rintro σ1522 w1517 hb1518 ⟨⟨u1523, hu1524, hv1525, f1526⟩, -⟩
          have hp1520 := hp66.grow hb1518
          have hp1521 := Hp.start w1517
          refine s_call (.cons (tm rfl f1526) (.cons rfl (.cons rfl .nil))) Try.call19 (selvageref15_word_put.calls k (⟨0, 0⟩ : selvageref15_word) 16 6 r1530 _ hx1531) rfl ?_
          rintro v_ w1527 ⟨rfl, hb1528⟩
          have hp1529 := hp1521.grow hb1528
          refine k_nil ?_
          exact ⟨_, rfl, hp1529.below, rfl⟩
        refine .cons [] rfl rfl rfl (by kernel_rfl) ?_ ?_
        · rintro σ1537 w1532 hb1533 -
          have hp1535 := hp66.grow hb1533
          have hp1536 := Hp.start w1532
          refine sv (v := .agg #[.int .i64 12, .int .i64 4, .int .i64 12, .int .i64 4]) rfl rfl rfl (e_build (vs := [(0, .int .i64 12), (1, .int .i64 4), (2, .int .i64 12), (3, .int .i64 4)]) (.cons rfl (.cons rfl (.cons rfl (.cons rfl .nil)))) (by kernel_rfl)) ?_
          refine k_nil ?_
          exact ⟨_, rfl, below_refl _, rfl⟩
        refine .cons [] rfl rfl rfl (by kernel_rfl) ?_ ?_
        · rintro σ1543 w1538 hb1539 -
          have hp1541 := hp66.grow hb1539
          have hp1542 := Hp.start w1538
          refine sv (v := .pointer (some ⟨b1, 1, none⟩)) rfl rfl rfl (e_fieldAddr (tm rfl rfl) Try.runUnderlying23 rfl Try.sizeOf3 rfl rfl) ?_
          refine k_nil ?_
          exact ⟨_, rfl, below_refl _, rfl⟩
        refine .cons [3] rfl rfl rfl (by kernel_rfl) ?_ ?_
        · rintro σ1549 w1544 hb1545 ⟨⟨u1550, hu1551, hv1552, f1553⟩, -⟩
          have hp1547 := hp66.grow hb1545
          have hp1548 := Hp.start w1544
          refine sv (v := .int .i64 a0.T) rfl rfl rfl (e_load1 (tm rfl f1553) Try.isAgg3 (cell_at (hp1547.get (i := 0) (j := 0) rfl rfl) rfl)) ?_
          refine k_nil ?_
          exact ⟨_, rfl, below_refl _, rfl⟩
        refine .cons [2, 4] rfl rfl rfl (by kernel_rfl) ?_ ?_
        · rintro σ1559 w1554 hb1555 ⟨⟨u1560, hu1561, hv1562, f1563⟩, ⟨u1564, hu1565, hv1566, f1567⟩, -⟩
          have hp1557 := hp66.grow hb1555
          have hp1558 := Hp.start w1554
          refine sv (v := .int .i64 (gi (intE .i64) ([12, 4, 12, 4] : List Int) a0.T)) rfl rfl rfl (e_index (E := (intE .i64)) (xs := ([12, 4, 12, 4] : List Int)) (tm rfl f1563) (tm rfl f1567) Try.runUnderlying55 Try.isAgg3 Try.sizeOf3 rfl rfl g1568 rfl) ?_
          refine k_nil ?_
          exact ⟨_, rfl, below_refl _, rfl⟩
        refine .cons [1, 5] rfl rfl rfl (by kernel_rfl) ?_ ?_
        · rintro σ1574 w1569 hb1570 ⟨⟨u1575, hu1576, hv1577, f1578⟩, ⟨u1579, hu1580, hv1581, f1582⟩, -⟩
          have hp1572 := hp66.grow hb1570
          have hp1573 := Hp.start w1569
          refine s_call (.cons (tm rfl f1578) (.cons (tm rfl f1582) (.cons rfl .nil))) Try.call19 (selvageref15_word_put.calls k r1530 (gi (intE .i64) ([12, 4, 12, 4] : List Int) a0.T) 5 r1586 _ hx1587) rfl ?_
          rintro v_ w1583 ⟨rfl, hb1584⟩
          have hp1585 := hp1573.grow hb1584
          refine k_nil ?_
          exact ⟨_, rfl, hp1585.below, rfl⟩
        refine .cons [] rfl rfl rfl (by kernel_rfl) ?_ ?_
        · rintro σ1593 w1588 hb1589 -
          have hp1591 := hp66.grow hb1589
          have hp1592 := Hp.start w1588
          refine sv (v := .agg #[.int .i64 0, .int .i64 0, .int .i64 2, .int .i64 2]) rfl rfl rfl (e_build (vs := [(0, .int .i64 0), (1, .int .i64 0), (2, .int .i64 2), (3, .int .i64 2)]) (.cons rfl (.cons rfl (.cons rfl (.cons rfl .nil)))) (by kernel_rfl)) ?_
          refine k_nil ?_
          exact ⟨_, rfl, below_refl _, rfl⟩
        refine .cons [] rfl rfl rfl (by kernel_rfl) ?_ ?_
        · rintro σ1599 w1594 hb1595 -
          have hp1597 := hp66.grow hb1595
          have hp1598 := Hp.start w1594
          refine sv (v := .pointer (some ⟨b1, 1, none⟩)) rfl rfl rfl (e_fieldAddr (tm rfl rfl) Try.runUnderlying23 rfl Try.sizeOf3 rfl rfl) ?_
          refine k_nil ?_
          exact ⟨_, rfl, below_refl _, rfl⟩
        refine .cons [8] rfl rfl rfl (by kernel_rfl) ?_ ?_
        · rintro σ1605 w1600 hb1601 ⟨⟨u1606, hu1607, hv1608, f1609⟩, -⟩
          have hp1603 := hp66.grow hb1601
          have hp1604 := Hp.start w1600
          refine sv (v := .int .i64 a0.T) rfl rfl rfl (e_load1 (tm rfl f1609) Try.isAgg3 (cell_at (hp1603.get (i := 0) (j := 0) rfl rfl) rfl)) ?_
          refine k_nil ?_
          exact ⟨_, rfl, below_refl _, rfl⟩
        refine .cons [7, 9] rfl rfl rfl (by kernel_rfl) ?_ ?_
        · rintro σ1615 w1610 hb1611 ⟨⟨u1616, hu1617, hv1618, f1619⟩, ⟨u1620, hu1621, hv1622, f1623⟩, -⟩
          have hp1613 := hp66.grow hb1611
          have hp1614 := Hp.start w1610
          refine sv (v := .int .i64 (gi (intE .i64) ([0, 0, 2, 2] : List Int) a0.T)) rfl rfl rfl (e_index (E := (intE .i64)) (xs := ([0, 0, 2, 2] : List Int)) (tm rfl f1619) (tm rfl f1623) Try.runUnderlying55 Try.isAgg3 Try.sizeOf3 rfl rfl g1568 rfl) ?_
          refine k_nil ?_
          exact ⟨_, rfl, below_refl _, rfl⟩
        refine .cons [6, 10] rfl rfl rfl (by kernel_rfl) ?_ ?_
        · rintro σ1629 w1624 hb1625 ⟨⟨u1630, hu1631, hv1632, f1633⟩, ⟨u1634, hu1635, hv1636, f1637⟩, -⟩
          have hp1627 := hp66.grow hb1625
          have hp1628 := Hp.start w1624
          refine s_call (.cons (tm rfl f1633) (.cons (tm rfl f1637) (.cons rfl .nil))) Try.call19 (selvageref15_word_put.calls k r1586 (gi (intE .i64) ([0, 0, 2, 2] : List Int) a0.T) 5 r1641 _ hx1642) rfl ?_
          rintro v_ w1638 ⟨rfl, hb1639⟩
          have hp1640 := hp1628.grow hb1639
          refine k_nil ?_
          exact ⟨_, rfl, hp1640.below, rfl⟩
        refine .cons [] rfl rfl rfl (by kernel_rfl) ?_ ?_
        · rintro σ1648 w1643 hb1644 -
          have hp1646 := hp66.grow hb1644
          have hp1647 := Hp.start w1643
          refine sv (v := .pointer (some ⟨b1, 4, none⟩)) rfl rfl rfl (e_fieldAddr (tm rfl rfl) Try.runUnderlying23 rfl Try.sizeOf3 rfl rfl) ?_
          refine k_nil ?_
          exact ⟨_, rfl, below_refl _, rfl⟩
        refine .cons [12] rfl rfl rfl (by kernel_rfl) ?_ ?_
        · rintro σ1654 w1649 hb1650 ⟨⟨u1655, hu1656, hv1657, f1658⟩, -⟩
          have hp1652 := hp66.grow hb1650
          have hp1653 := Hp.start w1649
          refine sv (v := .int .i64 a0.Imm) rfl rfl rfl (e_load1 (tm rfl f1658) Try.isAgg3 (cell_at (hp1652.get (i := 0) (j := 0) rfl rfl) rfl)) ?_
          refine k_nil ?_
          exact ⟨_, rfl, below_refl _, rfl⟩
        refine .cons [13] rfl rfl rfl (by kernel_rfl) ?_ ?_
        · rintro σ1664 w1659 hb1660 ⟨⟨u1665, hu1666, hv1667, f1668⟩, -⟩
          have hp1662 := hp66.grow hb1660
          have hp1663 := Hp.start w1659
          refine sv (v := .int .i64 (wrap64 (Int.tdiv a0.Imm 4))) rfl rfl rfl (e_bin (tm rfl f1668) rfl (r_div (op := .not) (by decide) (wrap_i64 _))) ?_
          refine k_nil ?_
          exact ⟨_, rfl, below_refl _, rfl⟩
        refine .cons [11, 14] rfl rfl rfl (by kernel_rfl) ?_ ?_
        · rintro σ1674 w1669 hb1670 ⟨⟨u1675, hu1676, hv1677, f1678⟩, ⟨u1679, hu1680, hv1681, f1682⟩, -⟩
          have hp1672 := hp66.grow hb1670
          have hp1673 := Hp.start w1669
          refine s_call (.cons (tm rfl f1678) (.cons (tm rfl f1682) (.cons rfl .nil))) Try.call19 (selvageref15_word_put.calls k r1641 (wrap64 (Int.tdiv a0.Imm 4)) 14 r1686 _ hx1687) rfl ?_
          rintro v_ w1683 ⟨rfl, hb1684⟩
          have hp1685 := hp1673.grow hb1684
          refine k_nil ?_
          exact ⟨_, rfl, hp1685.below, rfl⟩
        refine .cons [15] rfl rfl rfl (by kernel_rfl) ?_ ?_
        · rintro σ1693 w1688 hb1689 ⟨⟨u1694, hu1695, hv1696, f1697⟩, -⟩
          have hp1691 := hp66.grow hb1689
          have hp1692 := Hp.start w1688
          refine s_call (.cons (tm rfl f1697) (.cons rfl (.cons rfl .nil))) Try.call19 (selvageref15_word_put.calls k r1686 0 2 r1701 _ hx1702) rfl ?_
          rintro v_ w1698 ⟨rfl, hb1699⟩
          have hp1700 := hp1692.grow hb1699
          refine k_nil ?_
          exact ⟨_, rfl, hp1700.below, rfl⟩
        exact .nil
      rintro σ1706 w1703 hb1704 ⟨-, -, -, -, -, -, -, -, -, -, -, -, -, -, -, -, ⟨u1707, hu1708, hv1709, f1710⟩, -⟩
      have hp1705 := hp66.grow hb1704
      refine seenR [(296, .agg #[.int .u32 r1701.w, .int .i64 r1701.bits]), (1, .pointer (some ⟨b1, 0, none⟩)), (10, .pointer (some ⟨b62, 0, none⟩))] ⟨f1710, rfl, rfl, trivial⟩ ?_
      refine s_store (i := 1) (j := 0) (vs := [.int .u32 r1701.w, .int .i64 r1701.bits]) (l' := [.int .u32 r1701.w, .int .i64 r1701.bits]) hp1705 (tm rfl rfl) (tm rfl rfl) rfl Try.sizeOf51 rfl rfl rfl rfl rfl rfl (fun w1711 hp1712 => ?_)
      refine k_nil ?_
      obtain rfl := Option.some.inj H
      exact ⟨(r1701.w, r1701.bits), _, b62, rfl, seenF ⟨rfl, trivial⟩, hp1712.pick [1] (by decide) rfl⟩
    have H := iff_ h1510 H
    refine k_seq ?_
    refine k_region ?_
    refine sv (v := .bool (decide (r7 = 9))) rfl rfl rfl (e_bin (tm rfl rfl) rfl (r_eql rfl)) ?_
    refine sv (v := .bool (decide (r7 = 9))) rfl rfl rfl (e_assign (tm rfl rfl)) ?_
    refine k_nil ?_
    refine k_if (tm rfl rfl) (fun h1713 => ?_) (fun h1713 => ?_)
    · have H := ift h1713 H
      obtain ⟨r1733, hx1734, H⟩ := bindSome H
      obtain ⟨r1778, hx1779, H⟩ := bindSome H
      obtain ⟨r1793, hx1794, H⟩ := bindSome H
      refine k_drawn [(1, .pointer (some ⟨b1, 0, none⟩)), (10, .pointer (some ⟨b62, 0, none⟩))] 7 [⟨299, fun v w' => v = .agg #[.int .u32 0, .int .i64 0]⟩, ⟨300, fun v w' => v = .agg #[.int .u32 r1733.w, .int .i64 r1733.bits]⟩, ⟨301, fun v w' => v = .pointer (some ⟨b1, 4, none⟩)⟩, ⟨302, fun v w' => v = .int .i64 a0.Imm⟩, ⟨303, fun v w' => v = .int .i64 (wrap64 (Int.tdiv a0.Imm 4))⟩, ⟨304, fun v w' => v = .agg #[.int .u32 r1778.w, .int .i64 r1778.bits]⟩, ⟨305, fun v w' => v = .agg #[.int .u32 r1793.w, .int .i64 r1793.bits]⟩] ⟨rfl, rfl, trivial⟩ mixed rfl rfl rfl (by kernel_rfl) (by kernel_rfl) ?_ ?_
      · refine .cons [] rfl rfl rfl (by kernel_rfl) ?_ ?_
        · rintro σ1719 w1714 hb1715 -
          have hp1717 := hp66.grow hb1715
          have hp1718 := Hp.start w1714
          refine sv (v := .agg #[.int .u32 0, .int .i64 0]) rfl rfl rfl (e_loadA (tm rfl rfl) Try.isAgg51 Try.sizeOf51 rfl (cells_box (sz := 2) (hp1717.get (i := 1) (j := 0) rfl rfl) rfl)) ?_
          refine k_nil ?_
          exact ⟨_, rfl, below_refl _, rfl⟩
        refine .cons [0] rfl rfl rfl (by kernel_rfl) ?_ ?_
        · rintro σ1725 w1720 hb1721 ⟨⟨u1726, hu1727, hv1728, f1729⟩, -⟩
          have hp1723 := hp66.grow hb1721
          have hp1724 := Hp.start w1720
          refine s_call (.cons (tm rfl f1729) (.cons rfl (.cons rfl .nil))) Try.call19 (selvageref15_word_put.calls k (⟨0, 0⟩ : selvageref15_word) 18 6 r1733 _ hx1734) rfl ?_
          rintro v_ w1730 ⟨rfl, hb1731⟩
          have hp1732 := hp1724.grow hb1731
          refine k_nil ?_
          exact ⟨_, rfl, hp1732.below, rfl⟩
        refine .cons [] rfl rfl rfl (by kernel_rfl) ?_ ?_
        · rintro σ1740 w1735 hb1736 -
          have hp1738 := hp66.grow hb1736
          have hp1739 := Hp.start w1735
          refine sv (v := .pointer (some ⟨b1, 4, none⟩)) rfl rfl rfl (e_fieldAddr (tm rfl rfl) Try.runUnderlying23 rfl Try.sizeOf3 rfl rfl) ?_
          refine k_nil ?_
          exact ⟨_, rfl, below_refl _, rfl⟩
        refine .cons [2] rfl rfl rfl (by kernel_rfl) ?_ ?_
        · rintro σ1746 w1741 hb1742 ⟨⟨u1747, hu1748, hv1749, f1750⟩, -⟩
          have hp1744 := hp66.grow hb1742
          have hp1745 := Hp.start w1741
          refine sv (v := .int .i64 a0.Imm) rfl rfl rfl (e_load1 (tm rfl f1750) Try.isAgg3 (cell_at (hp1744.get (i := 0) (j := 0) rfl rfl) rfl)) ?_
          refine k_nil ?_
          exact ⟨_, rfl, below_refl _, rfl⟩
        refine .cons [3] rfl rfl rfl (by kernel_rfl) ?_ ?_
        · rintro σ1756 w1751 hb1752 ⟨⟨u1757, hu1758, hv1759, f1760⟩, -⟩
          have hp1754 := hp66.grow hb1752
          have hp1755 := Hp.start w1751
          refine sv (v := .int .i64 (wrap64 (Int.tdiv a0.Imm 4))) rfl rfl rfl (e_bin (tm rfl f1760) rfl (r_div (op := .not) (by decide) (wrap_i64 _))) ?_
          refine k_nil ?_
          exact ⟨_, rfl, below_refl _, rfl⟩
        refine .cons [1, 4] rfl rfl rfl (by kernel_rfl) ?_ ?_
        · rintro σ1766 w1761 hb1762 ⟨⟨u1767, hu1768, hv1769, f1770⟩, ⟨u1771, hu1772, hv1773, f1774⟩, -⟩
          have hp1764 := hp66.grow hb1762
          have hp1765 := Hp.start w1761
          refine s_call (.cons (tm rfl f1770) (.cons (tm rfl f1774) (.cons rfl .nil))) Try.call19 (selvageref15_word_put.calls k r1733 (wrap64 (Int.tdiv a0.Imm 4)) 24 r1778 _ hx1779) rfl ?_
          rintro v_ w1775 ⟨rfl, hb1776⟩
          have hp1777 := hp1765.grow hb1776
          refine k_nil ?_
          exact ⟨_, rfl, hp1777.below, rfl⟩
        refine .cons [5] rfl rfl rfl (by kernel_rfl) ?_ ?_
        · rintro σ1785 w1780 hb1781 ⟨⟨u1786, hu1787, hv1788, f1789⟩, -⟩
          have hp1783 := hp66.grow hb1781
          have hp1784 := Hp.start w1780
          refine s_call (.cons (tm rfl f1789) (.cons rfl (.cons rfl .nil))) Try.call19 (selvageref15_word_put.calls k r1778 0 2 r1793 _ hx1794) rfl ?_
          rintro v_ w1790 ⟨rfl, hb1791⟩
          have hp1792 := hp1784.grow hb1791
          refine k_nil ?_
          exact ⟨_, rfl, hp1792.below, rfl⟩
        exact .nil
      rintro σ1798 w1795 hb1796 ⟨-, -, -, -, -, -, ⟨u1799, hu1800, hv1801, f1802⟩, -⟩
      have hp1797 := hp66.grow hb1796
      refine seenR [(305, .agg #[.int .u32 r1793.w, .int .i64 r1793.bits]), (1, .pointer (some ⟨b1, 0, none⟩)), (10, .pointer (some ⟨b62, 0, none⟩))] ⟨f1802, rfl, rfl, trivial⟩ ?_
      refine s_store (i := 1) (j := 0) (vs := [.int .u32 r1793.w, .int .i64 r1793.bits]) (l' := [.int .u32 r1793.w, .int .i64 r1793.bits]) hp1797 (tm rfl rfl) (tm rfl rfl) rfl Try.sizeOf51 rfl rfl rfl rfl rfl rfl (fun w1803 hp1804 => ?_)
      refine k_nil ?_
      obtain rfl := Option.some.inj H
      exact ⟨(r1793.w, r1793.bits), _, b62, rfl, seenF ⟨rfl, trivial⟩, hp1804.pick [1] (by decide) rfl⟩
    have H := iff_ h1713 H
    refine k_seq ?_
    obtain ⟨r1882, hx1883, H⟩ := bindSome H
    obtain ⟨r1901, hx1902, H⟩ := bindSome H
    refine k_drawn [(1, .pointer (some ⟨b1, 0, none⟩)), (10, .pointer (some ⟨b62, 0, none⟩))] 7 [⟨118, fun v w' => v = .agg #[.int .u32 0, .int .i64 0]⟩, ⟨119, fun v w' => v = .pointer (some ⟨b1, 0, none⟩)⟩, ⟨120, fun v w' => v = .int .i64 a0.Op⟩, ⟨121, fun v w' => ∃ (A_ : Option Addr) (c_ : Nat) (X_ : Rsc), v = .slice A_ (([20, 21, 22, 23] : List Int).length) c_ ∧ Own (intE .i64) 3 A_ c_ ([20, 21, 22, 23] : List Int) X_ ∧ Fresh w65 w' X_⟩, ⟨122, fun v w' => ∃ (A_ : Option Addr) (c_ : Nat) (X_ : Rsc), v = .slice A_ (([31, 31, 19, 17] : List Int).length) c_ ∧ Own (intE .i64) 3 A_ c_ ([31, 31, 19, 17] : List Int) X_ ∧ Fresh w65 w' X_⟩, ⟨123, fun v w' => v = .int .i64 r1882⟩, ⟨124, fun v w' => v = .agg #[.int .u32 r1901.w, .int .i64 r1901.bits]⟩] ⟨rfl, rfl, trivial⟩ mixed rfl rfl rfl (by kernel_rfl) (by kernel_rfl) ?_ ?_
    · refine .cons [] rfl rfl rfl (by kernel_rfl) ?_ ?_
      · rintro σ1810 w1805 hb1806 -
        have hp1808 := hp66.grow hb1806
        have hp1809 := Hp.start w1805
        refine sv (v := .agg #[.int .u32 0, .int .i64 0]) rfl rfl rfl (e_loadA (tm rfl rfl) Try.isAgg51 Try.sizeOf51 rfl (cells_box (sz := 2) (hp1808.get (i := 1) (j := 0) rfl rfl) rfl)) ?_
        refine k_nil ?_
        exact ⟨_, rfl, below_refl _, rfl⟩
      refine .cons [] rfl rfl rfl (by kernel_rfl) ?_ ?_
      · rintro σ1816 w1811 hb1812 -
        have hp1814 := hp66.grow hb1812
        have hp1815 := Hp.start w1811
        refine sv (v := .pointer (some ⟨b1, 0, none⟩)) rfl rfl rfl (e_fieldAddr (tm rfl rfl) Try.runUnderlying23 rfl Try.sizeOf3 rfl rfl) ?_
        refine k_nil ?_
        exact ⟨_, rfl, below_refl _, rfl⟩
      refine .cons [1] rfl rfl rfl (by kernel_rfl) ?_ ?_
      · rintro σ1822 w1817 hb1818 ⟨⟨u1823, hu1824, hv1825, f1826⟩, -⟩
        have hp1820 := hp66.grow hb1818
        have hp1821 := Hp.start w1817
        refine sv (v := .int .i64 a0.Op) rfl rfl rfl (e_load1 (tm rfl f1826) Try.isAgg3 (cell_at (hp1820.get (i := 0) (j := 0) rfl rfl) rfl)) ?_
        refine k_nil ?_
        exact ⟨_, rfl, below_refl _, rfl⟩
      refine .cons [] rfl rfl rfl (by kernel_rfl) ?_ ?_
      · rintro σ1832 w1827 hb1828 -
        have hp1830 := hp66.grow hb1828
        have hp1831 := Hp.start w1827
        refine s_buildSlice (zv := .int .i64 0) (E := (intE .i64)) (vs := [(0, .int .i64 20), (1, .int .i64 21), (2, .int .i64 22), (3, .int .i64 23)]) (xs := ([20, 21, 22, 23] : List Int)) hp1831 (.cons rfl (.cons rfl (.cons rfl (.cons rfl .nil)))) Try.runUnderlying54 Try.sizeOf3 (by intro w_; kernel_rfl) rfl rfl rfl (by kernel_rfl) rfl (fun A1833 c1834 w1835 X1836 hp1837 O1838 => ?_)
        refine k_nil ?_
        exact ⟨_, rfl, hp1837.below, ⟨A1833, c1834, X1836, rfl, O1838, Fresh.back (hp1837.fresh0 (i := 0) rfl) hb1828⟩⟩
      refine .cons [] rfl rfl rfl (by kernel_rfl) ?_ ?_
      · rintro σ1844 w1839 hb1840 -
        have hp1842 := hp66.grow hb1840
        have hp1843 := Hp.start w1839
        refine s_buildSlice (zv := .int .i64 0) (E := (intE .i64)) (vs := [(0, .int .i64 31), (1, .int .i64 31), (2, .int .i64 19), (3, .int .i64 17)]) (xs := ([31, 31, 19, 17] : List Int)) hp1843 (.cons rfl (.cons rfl (.cons rfl (.cons rfl .nil)))) Try.runUnderlying54 Try.sizeOf3 (by intro w_; kernel_rfl) rfl rfl rfl (by kernel_rfl) rfl (fun A1845 c1846 w1847 X1848 hp1849 O1850 => ?_)
        refine k_nil ?_
        exact ⟨_, rfl, hp1849.below, ⟨A1845, c1846, X1848, rfl, O1850, Fresh.back (hp1849.fresh0 (i := 0) rfl) hb1840⟩⟩
      refine .cons [2, 3, 4] rfl rfl rfl (by kernel_rfl) ?_ ?_
      · rintro σ1856 w1851 hb1852 ⟨⟨u1857, hu1858, hv1859, f1860⟩, ⟨u1861, hu1862, hv1863, A1865, c1866, X1867, f1864, O1868, Fr1869⟩, ⟨u1870, hu1871, hv1872, A1874, c1875, X1876, f1873, O1877, Fr1878⟩, -⟩
        have hp1854 := hp66.grow hb1852
        have hp1855 := Hp.start w1851
        refine s_call (.cons (tm rfl f1860) (.cons (tm rfl f1864) (.cons (tm rfl f1873) .nil))) Try.call20 (selvageref15_pick.calls k a0.Op A1865 c1866 ([20, 21, 22, 23] : List Int) A1874 c1875 ([31, 31, 19, 17] : List Int) r1882 _ (RdS.any (O1868.rd ((Hp.start w65).adopt hb1852 (Fr1869.up hv1863)) (i := 0) rfl)) (RdS.any (O1877.rd ((Hp.start w65).adopt hb1852 (Fr1878.up hv1872)) (i := 0) rfl)) hx1883) rfl ?_
        rintro v_ w1879 ⟨rfl, hb1880⟩
        have hp1881 := hp1855.grow hb1880
        refine k_nil ?_
        exact ⟨_, rfl, hp1881.below, rfl⟩
      refine .cons [0, 5] rfl rfl rfl (by kernel_rfl) ?_ ?_
      · rintro σ1889 w1884 hb1885 ⟨⟨u1890, hu1891, hv1892, f1893⟩, ⟨u1894, hu1895, hv1896, f1897⟩, -⟩
        have hp1887 := hp66.grow hb1885
        have hp1888 := Hp.start w1884
        refine s_call (.cons (tm rfl f1893) (.cons (tm rfl f1897) (.cons rfl .nil))) Try.call19 (selvageref15_word_put.calls k (⟨0, 0⟩ : selvageref15_word) r1882 6 r1901 _ hx1902) rfl ?_
        rintro v_ w1898 ⟨rfl, hb1899⟩
        have hp1900 := hp1888.grow hb1899
        refine k_nil ?_
        exact ⟨_, rfl, hp1900.below, rfl⟩
      exact .nil
    rintro σ1906 w1903 hb1904 ⟨-, -, -, -, -, -, ⟨u1907, hu1908, hv1909, f1910⟩, -⟩
    have hp1905 := hp66.grow hb1904
    refine seenR [(124, .agg #[.int .u32 r1901.w, .int .i64 r1901.bits]), (1, .pointer (some ⟨b1, 0, none⟩)), (10, .pointer (some ⟨b62, 0, none⟩))] ⟨f1910, rfl, rfl, trivial⟩ ?_
    refine s_store (i := 1) (j := 0) (vs := [.int .u32 r1901.w, .int .i64 r1901.bits]) (l' := [.int .u32 r1901.w, .int .i64 r1901.bits]) hp1905 (tm rfl rfl) (tm rfl rfl) rfl Try.sizeOf51 rfl rfl rfl rfl rfl rfl (fun w1911 hp1912 => ?_)
    refine k_nil ?_
    refine k_seq ?_
    refine k_seq ?_
    refine k_region ?_
    refine sv (v := .pointer (some ⟨b1, 0, none⟩)) rfl rfl rfl (e_fieldAddr (tm rfl rfl) Try.runUnderlying23 rfl Try.sizeOf3 rfl rfl) ?_
    refine sv (v := .int .i64 a0.Op) rfl rfl rfl (e_load1 (tm rfl rfl) Try.isAgg3 (cell_at (hp1912.get (i := 0) (j := 0) rfl rfl) rfl)) ?_
    refine sv (v := .bool (decide (a0.Op = 23))) rfl rfl rfl (e_bin (tm rfl rfl) rfl (r_eql rfl)) ?_
    refine k_nil ?_
    refine k_if (tm rfl rfl) (fun h1913 => ?_) (fun h1913 => ?_)
    · have H := ift h1913 H
      refine k_seq ?_
      refine k_region ?_
      refine sv (v := .agg #[.int .u32 r1901.w, .int .i64 r1901.bits]) rfl rfl rfl (e_loadA (tm rfl rfl) Try.isAgg51 Try.sizeOf51 rfl (cells_box (sz := 2) (hp1912.get (i := 1) (j := 0) rfl rfl) rfl)) ?_
      obtain ⟨r1917, hx1918, H⟩ := bindSome H
      refine s_call (.cons (tm rfl rfl) (.cons rfl (.cons rfl .nil))) Try.call19 (selvageref15_word_put.calls k r1901 2 26 r1917 _ hx1918) rfl ?_
      rintro v_ w1914 ⟨rfl, hb1915⟩
      have hp1916 := hp1912.grow hb1915
      refine sv (v := .int .u32 r1917.w) rfl rfl rfl (e_field1 (tm rfl rfl) Try.runUnderlying51 rfl Try.isAgg25 rfl) ?_
      refine sv (v := .int .u32 r1917.w) rfl rfl rfl (e_assign (tm rfl rfl)) ?_
      refine sv (v := .int .i64 0) rfl rfl rfl (e_assign rfl) ?_
      refine k_nil ?_
      refine k_ret ?_
      refine q_ret ?_
      obtain rfl := Option.some.inj H
      have H := G68
      obtain rfl := Option.some.inj H
      exact k_end rfl (.tmp rfl rfl (.tmp rfl rfl .nil)) rfl ⟨rfl, hp1916.below⟩
    have H := iff_ h1913 H
    refine k_skip ?_
    obtain ⟨r1996, hx1997, H⟩ := bindSome H
    obtain ⟨r2015, hx2016, H⟩ := bindSome H
    obtain ⟨r2030, hx2031, H⟩ := bindSome H
    obtain ⟨r2103, hx2104, H⟩ := bindSome H
    obtain ⟨r2122, hx2123, H⟩ := bindSome H
    obtain ⟨r2137, hx2138, H⟩ := bindSome H
    refine k_drawn [(1, .pointer (some ⟨b1, 0, none⟩)), (10, .pointer (some ⟨b62, 0, none⟩))] 15 [⟨131, fun v w' => v = .agg #[.int .u32 r1901.w, .int .i64 r1901.bits]⟩, ⟨132, fun v w' => v = .pointer (some ⟨b1, 0, none⟩)⟩, ⟨133, fun v w' => v = .int .i64 a0.Op⟩, ⟨134, fun v w' => ∃ (A_ : Option Addr) (c_ : Nat) (X_ : Rsc), v = .slice A_ (([20, 21, 22] : List Int).length) c_ ∧ Own (intE .i64) 3 A_ c_ ([20, 21, 22] : List Int) X_ ∧ Fresh w1911 w' X_⟩, ⟨135, fun v w' => ∃ (A_ : Option Addr) (c_ : Nat) (X_ : Rsc), v = .slice A_ (([0, 1, 0] : List Int).length) c_ ∧ Own (intE .i64) 3 A_ c_ ([0, 1, 0] : List Int) X_ ∧ Fresh w1911 w' X_⟩, ⟨136, fun v w' => v = .int .i64 r1996⟩, ⟨137, fun v w' => v = .agg #[.int .u32 r2015.w, .int .i64 r2015.bits]⟩, ⟨138, fun v w' => v = .agg #[.int .u32 r2030.w, .int .i64 r2030.bits]⟩, ⟨139, fun v w' => v = .pointer (some ⟨b1, 0, none⟩)⟩, ⟨140, fun v w' => v = .int .i64 a0.Op⟩, ⟨141, fun v w' => ∃ (A_ : Option Addr) (c_ : Nat) (X_ : Rsc), v = .slice A_ (([20, 21, 22] : List Int).length) c_ ∧ Own (intE .i64) 3 A_ c_ ([20, 21, 22] : List Int) X_ ∧ Fresh w1911 w' X_⟩, ⟨142, fun v w' => ∃ (A_ : Option Addr) (c_ : Nat) (X_ : Rsc), v = .slice A_ (([598, 598, 150] : List Int).length) c_ ∧ Own (intE .i64) 3 A_ c_ ([598, 598, 150] : List Int) X_ ∧ Fresh w1911 w' X_⟩, ⟨143, fun v w' => v = .int .i64 r2103⟩, ⟨144, fun v w' => v = .agg #[.int .u32 r2122.w, .int .i64 r2122.bits]⟩, ⟨145, fun v w' => v = .agg #[.int .u32 r2137.w, .int .i64 r2137.bits]⟩] ⟨rfl, rfl, trivial⟩ mixed rfl rfl rfl (by kernel_rfl) (by kernel_rfl) ?_ ?_
    · refine .cons [] rfl rfl rfl (by kernel_rfl) ?_ ?_
      · rintro σ1924 w1919 hb1920 -
        have hp1922 := hp1912.grow hb1920
        have hp1923 := Hp.start w1919
        refine sv (v := .agg #[.int .u32 r1901.w, .int .i64 r1901.bits]) rfl rfl rfl (e_loadA (tm rfl rfl) Try.isAgg51 Try.sizeOf51 rfl (cells_box (sz := 2) (hp1922.get (i := 1) (j := 0) rfl rfl) rfl)) ?_
        refine k_nil ?_
        exact ⟨_, rfl, below_refl _, rfl⟩
      refine .cons [] rfl rfl rfl (by kernel_rfl) ?_ ?_
      · rintro σ1930 w1925 hb1926 -
        have hp1928 := hp1912.grow hb1926
        have hp1929 := Hp.start w1925
        refine sv (v := .pointer (some ⟨b1, 0, none⟩)) rfl rfl rfl (e_fieldAddr (tm rfl rfl) Try.runUnderlying23 rfl Try.sizeOf3 rfl rfl) ?_
        refine k_nil ?_
        exact ⟨_, rfl, below_refl _, rfl⟩
      refine .cons [1] rfl rfl rfl (by kernel_rfl) ?_ ?_
      · rintro σ1936 w1931 hb1932 ⟨⟨u1937, hu1938, hv1939, f1940⟩, -⟩
        have hp1934 := hp1912.grow hb1932
        have hp1935 := Hp.start w1931
        refine sv (v := .int .i64 a0.Op) rfl rfl rfl (e_load1 (tm rfl f1940) Try.isAgg3 (cell_at (hp1934.get (i := 0) (j := 0) rfl rfl) rfl)) ?_
        refine k_nil ?_
        exact ⟨_, rfl, below_refl _, rfl⟩
      refine .cons [] rfl rfl rfl (by kernel_rfl) ?_ ?_
      · rintro σ1946 w1941 hb1942 -
        have hp1944 := hp1912.grow hb1942
        have hp1945 := Hp.start w1941
        refine s_buildSlice (zv := .int .i64 0) (E := (intE .i64)) (vs := [(0, .int .i64 20), (1, .int .i64 21), (2, .int .i64 22)]) (xs := ([20, 21, 22] : List Int)) hp1945 (.cons rfl (.cons rfl (.cons rfl .nil))) Try.runUnderlying54 Try.sizeOf3 (by intro w_; kernel_rfl) rfl rfl rfl (by kernel_rfl) rfl (fun A1947 c1948 w1949 X1950 hp1951 O1952 => ?_)
        refine k_nil ?_
        exact ⟨_, rfl, hp1951.below, ⟨A1947, c1948, X1950, rfl, O1952, Fresh.back (hp1951.fresh0 (i := 0) rfl) hb1942⟩⟩
      refine .cons [] rfl rfl rfl (by kernel_rfl) ?_ ?_
      · rintro σ1958 w1953 hb1954 -
        have hp1956 := hp1912.grow hb1954
        have hp1957 := Hp.start w1953
        refine s_buildSlice (zv := .int .i64 0) (E := (intE .i64)) (vs := [(0, .int .i64 0), (1, .int .i64 1), (2, .int .i64 0)]) (xs := ([0, 1, 0] : List Int)) hp1957 (.cons rfl (.cons rfl (.cons rfl .nil))) Try.runUnderlying54 Try.sizeOf3 (by intro w_; kernel_rfl) rfl rfl rfl (by kernel_rfl) rfl (fun A1959 c1960 w1961 X1962 hp1963 O1964 => ?_)
        refine k_nil ?_
        exact ⟨_, rfl, hp1963.below, ⟨A1959, c1960, X1962, rfl, O1964, Fresh.back (hp1963.fresh0 (i := 0) rfl) hb1954⟩⟩
      refine .cons [2, 3, 4] rfl rfl rfl (by kernel_rfl) ?_ ?_
      · rintro σ1970 w1965 hb1966 ⟨⟨u1971, hu1972, hv1973, f1974⟩, ⟨u1975, hu1976, hv1977, A1979, c1980, X1981, f1978, O1982, Fr1983⟩, ⟨u1984, hu1985, hv1986, A1988, c1989, X1990, f1987, O1991, Fr1992⟩, -⟩
        have hp1968 := hp1912.grow hb1966
        have hp1969 := Hp.start w1965
        refine s_call (.cons (tm rfl f1974) (.cons (tm rfl f1978) (.cons (tm rfl f1987) .nil))) Try.call20 (selvageref15_pick.calls k a0.Op A1979 c1980 ([20, 21, 22] : List Int) A1988 c1989 ([0, 1, 0] : List Int) r1996 _ (RdS.any (O1982.rd ((Hp.start w1911).adopt hb1966 (Fr1983.up hv1977)) (i := 0) rfl)) (RdS.any (O1991.rd ((Hp.start w1911).adopt hb1966 (Fr1992.up hv1986)) (i := 0) rfl)) hx1997) rfl ?_
        rintro v_ w1993 ⟨rfl, hb1994⟩
        have hp1995 := hp1969.grow hb1994
        refine k_nil ?_
        exact ⟨_, rfl, hp1995.below, rfl⟩
      refine .cons [0, 5] rfl rfl rfl (by kernel_rfl) ?_ ?_
      · rintro σ2003 w1998 hb1999 ⟨⟨u2004, hu2005, hv2006, f2007⟩, ⟨u2008, hu2009, hv2010, f2011⟩, -⟩
        have hp2001 := hp1912.grow hb1999
        have hp2002 := Hp.start w1998
        refine s_call (.cons (tm rfl f2007) (.cons (tm rfl f2011) (.cons rfl .nil))) Try.call19 (selvageref15_word_put.calls k r1901 r1996 5 r2015 _ hx2016) rfl ?_
        rintro v_ w2012 ⟨rfl, hb2013⟩
        have hp2014 := hp2002.grow hb2013
        refine k_nil ?_
        exact ⟨_, rfl, hp2014.below, rfl⟩
      refine .cons [6] rfl rfl rfl (by kernel_rfl) ?_ ?_
      · rintro σ2022 w2017 hb2018 ⟨⟨u2023, hu2024, hv2025, f2026⟩, -⟩
        have hp2020 := hp1912.grow hb2018
        have hp2021 := Hp.start w2017
        refine s_call (.cons (tm rfl f2026) (.cons rfl (.cons rfl .nil))) Try.call19 (selvageref15_word_put.calls k r2015 0 10 r2030 _ hx2031) rfl ?_
        rintro v_ w2027 ⟨rfl, hb2028⟩
        have hp2029 := hp2021.grow hb2028
        refine k_nil ?_
        exact ⟨_, rfl, hp2029.below, rfl⟩
      refine .cons [] rfl rfl rfl (by kernel_rfl) ?_ ?_
      · rintro σ2037 w2032 hb2033 -
        have hp2035 := hp1912.grow hb2033
        have hp2036 := Hp.start w2032
        refine sv (v := .pointer (some ⟨b1, 0, none⟩)) rfl rfl rfl (e_fieldAddr (tm rfl rfl) Try.runUnderlying23 rfl Try.sizeOf3 rfl rfl) ?_
        refine k_nil ?_
        exact ⟨_, rfl, below_refl _, rfl⟩
      refine .cons [8] rfl rfl rfl (by kernel_rfl) ?_ ?_
      · rintro σ2043 w2038 hb2039 ⟨⟨u2044, hu2045, hv2046, f2047⟩, -⟩
        have hp2041 := hp1912.grow hb2039
        have hp2042 := Hp.start w2038
        refine sv (v := .int .i64 a0.Op) rfl rfl rfl (e_load1 (tm rfl f2047) Try.isAgg3 (cell_at (hp2041.get (i := 0) (j := 0) rfl rfl) rfl)) ?_
        refine k_nil ?_
        exact ⟨_, rfl, below_refl _, rfl⟩
      refine .cons [] rfl rfl rfl (by kernel_rfl) ?_ ?_
      · rintro σ2053 w2048 hb2049 -
        have hp2051 := hp1912.grow hb2049
        have hp2052 := Hp.start w2048
        refine s_buildSlice (zv := .int .i64 0) (E := (intE .i64)) (vs := [(0, .int .i64 20), (1, .int .i64 21), (2, .int .i64 22)]) (xs := ([20, 21, 22] : List Int)) hp2052 (.cons rfl (.cons rfl (.cons rfl .nil))) Try.runUnderlying54 Try.sizeOf3 (by intro w_; kernel_rfl) rfl rfl rfl (by kernel_rfl) rfl (fun A2054 c2055 w2056 X2057 hp2058 O2059 => ?_)
        refine k_nil ?_
        exact ⟨_, rfl, hp2058.below, ⟨A2054, c2055, X2057, rfl, O2059, Fresh.back (hp2058.fresh0 (i := 0) rfl) hb2049⟩⟩
      refine .cons [] rfl rfl rfl (by kernel_rfl) ?_ ?_
      · rintro σ2065 w2060 hb2061 -
        have hp2063 := hp1912.grow hb2061
        have hp2064 := Hp.start w2060
        refine s_buildSlice (zv := .int .i64 0) (E := (intE .i64)) (vs := [(0, .int .i64 598), (1, .int .i64 598), (2, .int .i64 150)]) (xs := ([598, 598, 150] : List Int)) hp2064 (.cons rfl (.cons rfl (.cons rfl .nil))) Try.runUnderlying54 Try.sizeOf3 (by intro w_; kernel_rfl) rfl rfl rfl (by kernel_rfl) rfl (fun A2066 c2067 w2068 X2069 hp2070 O2071 => ?_)
        refine k_nil ?_
        exact ⟨_, rfl, hp2070.below, ⟨A2066, c2067, X2069, rfl, O2071, Fresh.back (hp2070.fresh0 (i := 0) rfl) hb2061⟩⟩
      refine .cons [9, 10, 11] rfl rfl rfl (by kernel_rfl) ?_ ?_
      · rintro σ2077 w2072 hb2073 ⟨⟨u2078, hu2079, hv2080, f2081⟩, ⟨u2082, hu2083, hv2084, A2086, c2087, X2088, f2085, O2089, Fr2090⟩, ⟨u2091, hu2092, hv2093, A2095, c2096, X2097, f2094, O2098, Fr2099⟩, -⟩
        have hp2075 := hp1912.grow hb2073
        have hp2076 := Hp.start w2072
        refine s_call (.cons (tm rfl f2081) (.cons (tm rfl f2085) (.cons (tm rfl f2094) .nil))) Try.call20 (selvageref15_pick.calls k a0.Op A2086 c2087 ([20, 21, 22] : List Int) A2095 c2096 ([598, 598, 150] : List Int) r2103 _ (RdS.any (O2089.rd ((Hp.start w1911).adopt hb2073 (Fr2090.up hv2084)) (i := 0) rfl)) (RdS.any (O2098.rd ((Hp.start w1911).adopt hb2073 (Fr2099.up hv2093)) (i := 0) rfl)) hx2104) rfl ?_
        rintro v_ w2100 ⟨rfl, hb2101⟩
        have hp2102 := hp2076.grow hb2101
        refine k_nil ?_
        exact ⟨_, rfl, hp2102.below, rfl⟩
      refine .cons [7, 12] rfl rfl rfl (by kernel_rfl) ?_ ?_
      · rintro σ2110 w2105 hb2106 ⟨⟨u2111, hu2112, hv2113, f2114⟩, ⟨u2115, hu2116, hv2117, f2118⟩, -⟩
        have hp2108 := hp1912.grow hb2106
        have hp2109 := Hp.start w2105
        refine s_call (.cons (tm rfl f2114) (.cons (tm rfl f2118) (.cons rfl .nil))) Try.call19 (selvageref15_word_put.calls k r2030 r2103 10 r2122 _ hx2123) rfl ?_
        rintro v_ w2119 ⟨rfl, hb2120⟩
        have hp2121 := hp2109.grow hb2120
        refine k_nil ?_
        exact ⟨_, rfl, hp2121.below, rfl⟩
      refine .cons [13] rfl rfl rfl (by kernel_rfl) ?_ ?_
      · rintro σ2129 w2124 hb2125 ⟨⟨u2130, hu2131, hv2132, f2133⟩, -⟩
        have hp2127 := hp1912.grow hb2125
        have hp2128 := Hp.start w2124
        refine s_call (.cons (tm rfl f2133) (.cons rfl (.cons rfl .nil))) Try.call19 (selvageref15_word_put.calls k r2122 0 1 r2137 _ hx2138) rfl ?_
        rintro v_ w2134 ⟨rfl, hb2135⟩
        have hp2136 := hp2128.grow hb2135
        refine k_nil ?_
        exact ⟨_, rfl, hp2136.below, rfl⟩
      exact .nil
    rintro σ2142 w2139 hb2140 ⟨-, -, -, -, -, -, -, -, -, -, -, -, -, -, ⟨u2143, hu2144, hv2145, f2146⟩, -⟩
    have hp2141 := hp1912.grow hb2140
    refine seenR [(145, .agg #[.int .u32 r2137.w, .int .i64 r2137.bits]), (1, .pointer (some ⟨b1, 0, none⟩)), (10, .pointer (some ⟨b62, 0, none⟩))] ⟨f2146, rfl, rfl, trivial⟩ ?_
    refine s_store (i := 1) (j := 0) (vs := [.int .u32 r2137.w, .int .i64 r2137.bits]) (l' := [.int .u32 r2137.w, .int .i64 r2137.bits]) hp2141 (tm rfl rfl) (tm rfl rfl) rfl Try.sizeOf51 rfl rfl rfl rfl rfl rfl (fun w2147 hp2148 => ?_)
    refine k_nil ?_
    obtain rfl := Option.some.inj H
    exact ⟨(r2137.w, r2137.bits), _, b62, rfl, seenF ⟨rfl, trivial⟩, hp2148.pick [1] (by decide) rfl⟩
  clear H
  rintro a w' ⟨s69, σ2152, b2153, rfl, rfl, hp2150⟩
  have H := G68
  rw [Sum.elim_inl] at H
  refine k_seq ?_
  refine k_region ?_
  refine sv (v := .pointer (some ⟨b2153, 0, none⟩)) rfl rfl rfl (e_fieldAddr (tm rfl rfl) Try.runUnderlying51 rfl Try.sizeOf25 rfl rfl) ?_
  refine sv (v := .int .u32 s69.1) rfl rfl rfl (e_load1 (tm rfl rfl) Try.isAgg25 (cell_at (hp2150.get (i := 0) (j := 0) rfl rfl) rfl)) ?_
  refine sv (v := .int .u32 s69.1) rfl rfl rfl (e_assign (tm rfl rfl)) ?_
  refine sv (v := .int .i64 0) rfl rfl rfl (e_assign rfl) ?_
  refine k_nil ?_
  refine k_ret ?_
  obtain rfl := Option.some.inj H
  exact k_end rfl (.tmp rfl rfl (.tmp rfl rfl .nil)) rfl ⟨rfl, hp2150.below⟩

end Go.Proofs.Ytallojficgiemaa.W

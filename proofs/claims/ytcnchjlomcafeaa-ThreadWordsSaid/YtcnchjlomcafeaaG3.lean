/- Functions of the program as plain Lean functions, and that the calls do what they say: written by w3.py. -/
import Derived.Test.YtcnchjlomcafeaaRun
import Derived.Test.YtcnchjlomcafeaaTy
set_option linter.unusedVariables false
set_option linter.unusedSimpArgs false
set_option linter.unusedSectionVars false
namespace Go.Proofs.Ytcnchjlomcafeaa.W
open Go Go.RowKit Go.Proofs.Ytcnchjlomcafeaa.B
attribute [local irreducible] Go.wpList Go.Code.wp Go.Region.wanted Go.yielded
/-! ### selvage/selvageref15.sort: function 42 -/
def selvageref15_sort.m (a0 : Int) : Option Int :=
 if ((decide (a0 < 1)) || (decide (a0 > 23))) = true then (some 0) else (if 0 ≤ a0 ∧ a0 < 24 then (some (gi ([0, 1, 1, 2, 2, 3, 4, 4, 4, 4, 5, 5, 4, 4, 4, 4, 6, 7, 8, 9, 10, 10, 10, 10] : List Int) a0)) else none)
set_option maxHeartbeats 4000000 in
set_option maxRecDepth 100000 in
theorem selvageref15_sort.calls (a0 : Int) (r : Int) (w : World) (H : selvageref15_sort.m a0 = some r) :
 Ret Try.prog 42 [.int .i64 a0] w fun v w' => v = .int .i64 r ∧ Aft w w' [] [] := by
 unfold selvageref15_sort.m at H
 have hp0 := Hp.startR (F := no) (R := []) (Have.nil w) (fun _ h => h.elim)
 have ep0 := Ep.refl no [] w
 refine enter (L := [(0, .int .i64 a0)]) Try.func42 rfl Try.ntmps42 rfl rfl ?_
 refine kq tb hp0 [] [] (by kernel_rfl) fun σ => ?_
 refine k_seq ?_
 refine kq tb hp0 [] [(8, .bool ((decide (a0 < 1)) || (decide (a0 > 23))))] (by kernel_rfl) fun σ => ?_
 refine k_if (tm rfl rfl) (fun h_1 => ?_) (fun h_1 => ?_)
 ·have H := ift h_1 H
  refine kq tb hp0 [] [(2, .int .i64 0)] (by kernel_rfl) fun σ => ?_
  refine k_ret ?_
  obtain rfl := Option.some.inj H
  exact k_end rfl (.tmp rfl rfl .nil) rfl ⟨rfl, (hp0).aft⟩
 have H := iff_ h_1 H
 refine k_skip ?_
 refine k_seq ?_
 refine k_region ?_
 refine sv (v := .agg #[.int .i64 0, .int .i64 1, .int .i64 1, .int .i64 2, .int .i64 2, .int .i64 3, .int .i64 4, .int .i64 4, .int .i64 4, .int .i64 4, .int .i64 5, .int .i64 5, .int .i64 4, .int .i64 4, .int .i64 4, .int .i64 4, .int .i64 6, .int .i64 7, .int .i64 8, .int .i64 9, .int .i64 10, .int .i64 10, .int .i64 10, .int .i64 10]) rfl rfl rfl (e_build (vs := [(0, .int .i64 0), (1, .int .i64 1), (2, .int .i64 1), (3, .int .i64 2), (4, .int .i64 2), (5, .int .i64 3), (6, .int .i64 4), (7, .int .i64 4), (8, .int .i64 4), (9, .int .i64 4), (10, .int .i64 5), (11, .int .i64 5), (12, .int .i64 4), (13, .int .i64 4), (14, .int .i64 4), (15, .int .i64 4), (16, .int .i64 6), (17, .int .i64 7), (18, .int .i64 8), (19, .int .i64 9), (20, .int .i64 10), (21, .int .i64 10), (22, .int .i64 10), (23, .int .i64 10)]) (cs := [.int .i64 0, .int .i64 1, .int .i64 1, .int .i64 2, .int .i64 2, .int .i64 3, .int .i64 4, .int .i64 4, .int .i64 4, .int .i64 4, .int .i64 5, .int .i64 5, .int .i64 4, .int .i64 4, .int .i64 4, .int .i64 4, .int .i64 6, .int .i64 7, .int .i64 8, .int .i64 9, .int .i64 10, .int .i64 10, .int .i64 10, .int .i64 10]) (.cons rfl (.cons rfl (.cons rfl (.cons rfl (.cons rfl (.cons rfl (.cons rfl (.cons rfl (.cons rfl (.cons rfl (.cons rfl (.cons rfl (.cons rfl (.cons rfl (.cons rfl (.cons rfl (.cons rfl (.cons rfl (.cons rfl (.cons rfl (.cons rfl (.cons rfl (.cons rfl (.cons rfl .nil)))))))))))))))))))))))) (by kernel_rfl)) ?_
 refine sv (v := .int .i64 a0) rfl rfl rfl (e_move (tm rfl rfl)) ?_
 obtain ⟨g_2, H⟩ := grd H
 refine sv (v := .int .i64 (gi ([0, 1, 1, 2, 2, 3, 4, 4, 4, 4, 5, 5, 4, 4, 4, 4, 6, 7, 8, 9, 10, 10, 10, 10] : List Int) a0)) rfl rfl rfl (e_index (f := (mI .i64)) (xs := ([0, 1, 1, 2, 2, 3, 4, 4, 4, 4, 5, 5, 4, 4, 4, 4, 6, 7, 8, 9, 10, 10, 10, 10] : List Int)) (tm rfl rfl) (tm rfl rfl) Try.runUnderlying117 Try.isAgg3 Try.sizeOf3 rfl g_2 rfl) ?_
 refine sv (v := .int .i64 (gi ([0, 1, 1, 2, 2, 3, 4, 4, 4, 4, 5, 5, 4, 4, 4, 4, 6, 7, 8, 9, 10, 10, 10, 10] : List Int) a0)) rfl rfl rfl (e_assign (tm rfl rfl)) ?_
 refine k_nil ?_
 refine k_ret ?_
 obtain rfl := Option.some.inj H
 exact k_end rfl (.tmp rfl rfl .nil) rfl ⟨rfl, (hp0).aft⟩

/-! ### selvage/selvageref15.uses: function 43 -/
def selvageref15_uses.m (a0 : Int) : Option ByteArray :=
 if 0 ≤ a0 ∧ a0 < 11 then (some (gi ([(⟨#[]⟩ : ByteArray), (⟨#[116, 97, 105]⟩ : ByteArray), (⟨#[116, 97, 105]⟩ : ByteArray), (⟨#[116, 97, 105]⟩ : ByteArray), (⟨#[116, 97, 98]⟩ : ByteArray), (⟨#[116, 97, 105]⟩ : ByteArray), (⟨#[97, 98]⟩ : ByteArray), (⟨#[97, 105]⟩ : ByteArray), (⟨#[116, 105]⟩ : ByteArray), (⟨#[105]⟩ : ByteArray), (⟨#[]⟩ : ByteArray)] : List ByteArray) a0)) else none
set_option maxHeartbeats 4000000 in
set_option maxRecDepth 100000 in
theorem selvageref15_uses.calls (a0 : Int) (r : ByteArray) (w : World) (H : selvageref15_uses.m a0 = some r) :
 Ret Try.prog 43 [.int .i64 a0] w fun v w' => v = .string r ∧ Aft w w' [] [] := by
 unfold selvageref15_uses.m at H
 have hp0 := Hp.startR (F := no) (R := []) (Have.nil w) (fun _ h => h.elim)
 have ep0 := Ep.refl no [] w
 refine enter (L := [(0, .int .i64 a0)]) Try.func43 rfl Try.ntmps43 rfl rfl ?_
 refine kq tb hp0 [] [] (by kernel_rfl) fun σ => ?_
 refine k_seq ?_
 refine k_region ?_
 refine sv (v := .agg #[.string (⟨#[]⟩ : ByteArray), .string (⟨#[116, 97, 105]⟩ : ByteArray), .string (⟨#[116, 97, 105]⟩ : ByteArray), .string (⟨#[116, 97, 105]⟩ : ByteArray), .string (⟨#[116, 97, 98]⟩ : ByteArray), .string (⟨#[116, 97, 105]⟩ : ByteArray), .string (⟨#[97, 98]⟩ : ByteArray), .string (⟨#[97, 105]⟩ : ByteArray), .string (⟨#[116, 105]⟩ : ByteArray), .string (⟨#[105]⟩ : ByteArray), .string (⟨#[]⟩ : ByteArray)]) rfl rfl rfl (e_build (vs := [(0, .string (⟨#[]⟩ : ByteArray)), (1, .string (⟨#[116, 97, 105]⟩ : ByteArray)), (2, .string (⟨#[116, 97, 105]⟩ : ByteArray)), (3, .string (⟨#[116, 97, 105]⟩ : ByteArray)), (4, .string (⟨#[116, 97, 98]⟩ : ByteArray)), (5, .string (⟨#[116, 97, 105]⟩ : ByteArray)), (6, .string (⟨#[97, 98]⟩ : ByteArray)), (7, .string (⟨#[97, 105]⟩ : ByteArray)), (8, .string (⟨#[116, 105]⟩ : ByteArray)), (9, .string (⟨#[105]⟩ : ByteArray)), (10, .string (⟨#[]⟩ : ByteArray))]) (cs := [.string (⟨#[]⟩ : ByteArray), .string (⟨#[116, 97, 105]⟩ : ByteArray), .string (⟨#[116, 97, 105]⟩ : ByteArray), .string (⟨#[116, 97, 105]⟩ : ByteArray), .string (⟨#[116, 97, 98]⟩ : ByteArray), .string (⟨#[116, 97, 105]⟩ : ByteArray), .string (⟨#[97, 98]⟩ : ByteArray), .string (⟨#[97, 105]⟩ : ByteArray), .string (⟨#[116, 105]⟩ : ByteArray), .string (⟨#[105]⟩ : ByteArray), .string (⟨#[]⟩ : ByteArray)]) (.cons rfl (.cons rfl (.cons rfl (.cons rfl (.cons rfl (.cons rfl (.cons rfl (.cons rfl (.cons rfl (.cons rfl (.cons rfl .nil))))))))))) (by kernel_rfl)) ?_
 refine sv (v := .int .i64 a0) rfl rfl rfl (e_move (tm rfl rfl)) ?_
 obtain ⟨g_1, H⟩ := grd H
 refine sv (v := .string (gi ([(⟨#[]⟩ : ByteArray), (⟨#[116, 97, 105]⟩ : ByteArray), (⟨#[116, 97, 105]⟩ : ByteArray), (⟨#[116, 97, 105]⟩ : ByteArray), (⟨#[116, 97, 98]⟩ : ByteArray), (⟨#[116, 97, 105]⟩ : ByteArray), (⟨#[97, 98]⟩ : ByteArray), (⟨#[97, 105]⟩ : ByteArray), (⟨#[116, 105]⟩ : ByteArray), (⟨#[105]⟩ : ByteArray), (⟨#[]⟩ : ByteArray)] : List ByteArray) a0)) rfl rfl rfl (e_index (f := Value.string) (xs := ([(⟨#[]⟩ : ByteArray), (⟨#[116, 97, 105]⟩ : ByteArray), (⟨#[116, 97, 105]⟩ : ByteArray), (⟨#[116, 97, 105]⟩ : ByteArray), (⟨#[116, 97, 98]⟩ : ByteArray), (⟨#[116, 97, 105]⟩ : ByteArray), (⟨#[97, 98]⟩ : ByteArray), (⟨#[97, 105]⟩ : ByteArray), (⟨#[116, 105]⟩ : ByteArray), (⟨#[105]⟩ : ByteArray), (⟨#[]⟩ : ByteArray)] : List ByteArray)) (tm rfl rfl) (tm rfl rfl) Try.runUnderlying118 Try.isAgg9 Try.sizeOf9 rfl g_1 rfl) ?_
 refine sv (v := .string (gi ([(⟨#[]⟩ : ByteArray), (⟨#[116, 97, 105]⟩ : ByteArray), (⟨#[116, 97, 105]⟩ : ByteArray), (⟨#[116, 97, 105]⟩ : ByteArray), (⟨#[116, 97, 98]⟩ : ByteArray), (⟨#[116, 97, 105]⟩ : ByteArray), (⟨#[97, 98]⟩ : ByteArray), (⟨#[97, 105]⟩ : ByteArray), (⟨#[116, 105]⟩ : ByteArray), (⟨#[105]⟩ : ByteArray), (⟨#[]⟩ : ByteArray)] : List ByteArray) a0)) rfl rfl rfl (e_assign (tm rfl rfl)) ?_
 refine k_nil ?_
 refine k_ret ?_
 obtain rfl := Option.some.inj H
 exact k_end rfl (.tmp rfl rfl .nil) rfl ⟨rfl, (hp0).aft⟩

/-! ### selvage/selvageref15.has: function 44 -/
def selvageref15_has.l0 (a0 : ByteArray) (a1 : Int) (x_4 : Int) : Option (Int ⊕ (Unit ⊕ Bool)) :=
 if (decide (x_4 < (a0.size : Int))) = true then (if 0 ≤ x_4 ∧ x_4 < (a0.size : Int) then (if (decide ((sb a0 x_4) = a1)) = true then (((some true).map Sum.inr).map Sum.inr) else (some (Sum.inl (wrap64 (x_4 + 1))))) else none) else ((some (Sum.inl ())).map Sum.inr)
def selvageref15_has.m (a0 : ByteArray) (a1 : Int) : Option Bool :=
 (loop (selvageref15_has.l0 a0 a1) 0 : Option (Unit ⊕ Bool)).bind fun o_1 => match o_1 with | .inl s_3 => (some false) | .inr r_18 => some r_18
set_option maxHeartbeats 4000000 in
set_option maxRecDepth 100000 in
theorem selvageref15_has.calls (a0 : ByteArray) (a1 : Int) (r : Bool) (w : World) (H : selvageref15_has.m a0 a1 = some r) :
 Ret Try.prog 44 [.string a0, .int .u8 a1] w fun v w' => v = .bool r ∧ Aft w w' [] [] := by
 unfold selvageref15_has.m at H
 have hp0 := Hp.startR (F := no) (R := []) (Have.nil w) (fun _ h => h.elim)
 have ep0 := Ep.refl no [] w
 refine enter (L := [(0, .string a0), (1, .int .u8 a1)]) Try.func44 rfl Try.ntmps44 rfl rfl ?_
 refine kq tb hp0 [] [] (by kernel_rfl) fun σ => ?_
 refine k_seq ?_
 refine kq tb hp0 [] [(5, .int .i64 0)] (by kernel_rfl) fun σ => ?_
 obtain ⟨o_1, H, G_2⟩ := bindSome H
 refine k_cut (fun a w' => ∃ (s_3 : Unit) (σ_19 : Nat → Value), o_1 = Sum.inl s_3 ∧ a = st 17 [] σ_19 [] ∧ Hp (On []) no w w w' []) ?_ ?_
 ·as_aux_lemma =>
  refine k_block ?_
  refine k_lp (fun (x_4 : Int) a w' => ∃ (σ_14 : Nat → Value), a = st 17 [(0, .string a0), (1, .int .u8 a1), (5, .int .i64 x_4)] σ_14 [] ∧ Hp (On []) no w w w' []) H ⟨_, seenF ⟨rfl, rfl, rfl, trivial⟩, hp0⟩ ?_
  clear H
  rintro x_4 a w' z_ ⟨σ_7, rfl, hp_8⟩ H hz_5
  unfold selvageref15_has.l0 at H
  refine k_seq ?_
  refine kq tb hp_8 [] [(9, .bool (decide (x_4 < (a0.size : Int))))] (by kernel_rfl) fun σ => ?_
  refine k_if (tm rfl rfl) (fun h_11 => ?_) (fun h_11 => ?_)
  ·as_aux_lemma =>
   have H := ift h_11 H
   refine k_skip ?_
   refine k_seq ?_
   refine k_block ?_
   refine k_seq ?_
   refine k_region ?_
   refine sr tb hp_8 [] 2 [(12, .string a0), (13, .int .i64 x_4)] (by kernel_rfl) fun σ => ?_
   obtain ⟨g_12, H⟩ := grd H
   refine sv (v := .int .u8 (sb a0 x_4)) rfl rfl rfl (e_indexs (tm rfl rfl) (tm rfl rfl) Try.runUnderlying9 g_12) ?_
   refine sr tb hp_8 [] 2 [(16, .bool (decide ((sb a0 x_4) = a1)))] (by kernel_rfl) fun σ => ?_
   refine k_nil ?_
   refine k_if (tm rfl rfl) (fun h_13 => ?_) (fun h_13 => ?_)
   ·have H := ift h_13 H
    refine kq tb hp_8 [] [(4, .bool true)] (by kernel_rfl) fun σ => ?_
    refine k_ret ?_
    refine q_ret ?_
    refine q_ret ?_
    obtain ⟨v_, H', hv_⟩ := mapSome H
    have hv_ := hz_5 _ hv_
    subst hv_
    have H := H'
    clear H'
    obtain ⟨v_, H', hv_⟩ := mapSome H
    subst hv_
    have H := H'.trans (show some v_ = _ from G_2)
    obtain rfl := Option.some.inj H
    exact k_end rfl (.tmp rfl rfl .nil) rfl ⟨rfl, (hp_8).aft⟩
   have H := iff_ h_13 H
   refine k_skip ?_
   refine kr tb hp_8 [] [(5, .int .i64 (wrap64 (x_4 + 1)))] (by kernel_rfl) fun σ => ?_
   obtain rfl := Option.some.inj H
   exact ⟨_, rfl, ⟨_, seenF ⟨rfl, rfl, rfl, trivial⟩, hp_8⟩⟩
  have H := iff_ h_11 H
  refine k_exit ?_
  refine q_here ?_
  obtain ⟨v_, H', hv_⟩ := mapSome H
  have hv_ := hz_5 _ hv_
  subst hv_
  have H := H'
  clear H'
  obtain rfl := Option.some.inj H
  exact ⟨(), _, rfl, seenF trivial, hp_8⟩
 clear H
 rintro a w' ⟨s_3, σ_14, rfl, rfl, hp_15⟩
 have H := G_2
 refine kq tb hp_15 [] [(4, .bool false)] (by kernel_rfl) fun σ => ?_
 refine k_ret ?_
 obtain rfl := Option.some.inj H
 exact k_end rfl (.tmp rfl rfl .nil) rfl ⟨rfl, (hp_15).aft⟩

/-! ### selvage/selvageref15.bounds: function 45 -/
def selvageref15_bounds.m (a0 : Int) : Int × Int × Int :=
 lt (if (decide (a0 = 1)) = true then (decide (a0 = 1)) else (decide (a0 = 7)) : Bool) fun o_1 => if o_1 = true then (((-32768), 32767, 1)) else (if (decide (a0 = 2)) = true then ((0, 65535, 1)) else (if (decide (a0 = 3)) = true then ((0, 63, 1)) else (lt (if (decide (a0 = 5)) = true then (decide (a0 = 5)) else (decide (a0 = 8)) : Bool) fun o_11 => if o_11 = true then (((-32768), 32764, 4)) else (if (decide (a0 = 9)) = true then (((-33554432), 33554428, 4)) else ((0, 0, 1))))))
set_option maxHeartbeats 4000000 in
set_option maxRecDepth 100000 in
theorem selvageref15_bounds.calls (a0 : Int) (w : World) :
 Ret Try.prog 45 [.int .i64 a0] w fun v w' => v = .tuple #[.int .i64 ((selvageref15_bounds.m a0).1), .int .i64 ((selvageref15_bounds.m a0).2.1), .int .i64 ((selvageref15_bounds.m a0).2.2)] ∧ Aft w w' [] [] := by
 obtain ⟨r, H⟩ : ∃ r, selvageref15_bounds.m a0 = r := ⟨_, rfl⟩
 rw [H]
 unfold selvageref15_bounds.m at H
 have hp0 := Hp.startR (F := no) (R := []) (Have.nil w) (fun _ h => h.elim)
 have ep0 := Ep.refl no [] w
 refine enter (L := [(0, .int .i64 a0)]) Try.func45 rfl Try.ntmps45 rfl rfl ?_
 refine kq tb hp0 [] [] (by kernel_rfl) fun σ => ?_
 refine k_seq ?_
 refine kq tb hp0 [] [(5, .int .i64 a0)] (by kernel_rfl) fun σ => ?_
 refine k_block ?_
 refine k_seq ?_
 refine kq tb hp0 [] [(6, .bool (decide (a0 = 1)))] (by kernel_rfl) fun σ => ?_
 obtain ⟨o_1, H, G_2⟩ := ltE H
 refine k_cut (fun a w' => ∃ (σ_22 : Nat → Value), a = st 18 [(5, .int .i64 a0), (6, .bool o_1)] σ_22 [] ∧ Hp (On []) no w w w' []) ?_ ?_
 ·refine k_if (tm rfl rfl) (fun h_3 => ?_) (fun h_3 => ?_)
  ·have H := ift h_3 H
   refine k_skip ?_
   obtain rfl := id H
   exact ⟨_, seenF ⟨rfl, rfl, trivial⟩, hp0⟩
  have H := iff_ h_3 H
  refine kr tb hp0 [] [(6, .bool (decide (a0 = 7)))] (by kernel_rfl) fun σ => ?_
  obtain rfl := id H
  exact ⟨_, seenF ⟨rfl, rfl, trivial⟩, hp0⟩
 clear H
 rintro a w' ⟨σ_4, rfl, hp_5⟩
 have H := G_2
 refine k_if (tm rfl rfl) (fun h_8 => ?_) (fun h_8 => ?_)
 ·have H := ift h_8 H
  refine kq tb hp_5 [] [(2, .int .i64 (-32768)), (3, .int .i64 32767), (4, .int .i64 1)] (by kernel_rfl) fun σ => ?_
  refine k_ret ?_
  refine q_ret ?_
  obtain rfl := id H
  exact k_end rfl (.tmp rfl rfl (.tmp rfl rfl (.tmp rfl rfl .nil))) rfl ⟨rfl, (hp_5).aft⟩
 have H := iff_ h_8 H
 refine kq tb hp_5 [] [(9, .bool (decide (a0 = 2)))] (by kernel_rfl) fun σ => ?_
 refine k_if (tm rfl rfl) (fun h_9 => ?_) (fun h_9 => ?_)
 ·have H := ift h_9 H
  refine kq tb hp_5 [] [(2, .int .i64 0), (3, .int .i64 65535), (4, .int .i64 1)] (by kernel_rfl) fun σ => ?_
  refine k_ret ?_
  refine q_ret ?_
  obtain rfl := id H
  exact k_end rfl (.tmp rfl rfl (.tmp rfl rfl (.tmp rfl rfl .nil))) rfl ⟨rfl, (hp_5).aft⟩
 have H := iff_ h_9 H
 refine kq tb hp_5 [] [(11, .bool (decide (a0 = 3)))] (by kernel_rfl) fun σ => ?_
 refine k_if (tm rfl rfl) (fun h_10 => ?_) (fun h_10 => ?_)
 ·have H := ift h_10 H
  refine kq tb hp_5 [] [(2, .int .i64 0), (3, .int .i64 63), (4, .int .i64 1)] (by kernel_rfl) fun σ => ?_
  refine k_ret ?_
  refine q_ret ?_
  obtain rfl := id H
  exact k_end rfl (.tmp rfl rfl (.tmp rfl rfl (.tmp rfl rfl .nil))) rfl ⟨rfl, (hp_5).aft⟩
 have H := iff_ h_10 H
 refine k_seq ?_
 refine kq tb hp_5 [] [(13, .bool (decide (a0 = 5)))] (by kernel_rfl) fun σ => ?_
 obtain ⟨o_11, H, G_12⟩ := ltE H
 refine k_cut (fun a w' => ∃ (σ_21 : Nat → Value), a = st 18 [(5, .int .i64 a0), (13, .bool o_11)] σ_21 [] ∧ Hp (On []) no w w w' []) ?_ ?_
 ·refine k_if (tm rfl rfl) (fun h_13 => ?_) (fun h_13 => ?_)
  ·have H := ift h_13 H
   refine k_skip ?_
   obtain rfl := id H
   exact ⟨_, seenF ⟨rfl, rfl, trivial⟩, hp_5⟩
  have H := iff_ h_13 H
  refine kr tb hp_5 [] [(13, .bool (decide (a0 = 8)))] (by kernel_rfl) fun σ => ?_
  obtain rfl := id H
  exact ⟨_, seenF ⟨rfl, rfl, trivial⟩, hp_5⟩
 clear H
 rintro a w' ⟨σ_14, rfl, hp_15⟩
 have H := G_12
 refine k_if (tm rfl rfl) (fun h_18 => ?_) (fun h_18 => ?_)
 ·have H := ift h_18 H
  refine kq tb hp_15 [] [(2, .int .i64 (-32768)), (3, .int .i64 32764), (4, .int .i64 4)] (by kernel_rfl) fun σ => ?_
  refine k_ret ?_
  refine q_ret ?_
  obtain rfl := id H
  exact k_end rfl (.tmp rfl rfl (.tmp rfl rfl (.tmp rfl rfl .nil))) rfl ⟨rfl, (hp_15).aft⟩
 have H := iff_ h_18 H
 refine kq tb hp_15 [] [(16, .bool (decide (a0 = 9)))] (by kernel_rfl) fun σ => ?_
 refine k_if (tm rfl rfl) (fun h_19 => ?_) (fun h_19 => ?_)
 ·have H := ift h_19 H
  refine kq tb hp_15 [] [(2, .int .i64 (-33554432)), (3, .int .i64 33554428), (4, .int .i64 4)] (by kernel_rfl) fun σ => ?_
  refine k_ret ?_
  refine q_ret ?_
  obtain rfl := id H
  exact k_end rfl (.tmp rfl rfl (.tmp rfl rfl (.tmp rfl rfl .nil))) rfl ⟨rfl, (hp_15).aft⟩
 have H := iff_ h_19 H
 refine k_skip ?_
 refine kq tb hp_15 [] [(2, .int .i64 0), (3, .int .i64 0), (4, .int .i64 1)] (by kernel_rfl) fun σ => ?_
 refine k_ret ?_
 obtain rfl := id H
 exact k_end rfl (.tmp rfl rfl (.tmp rfl rfl (.tmp rfl rfl .nil))) rfl ⟨rfl, (hp_15).aft⟩

/-! ### selvage/selvageref15.pick: function 47 -/
def selvageref15_pick.l0 (a0 : Int) (a1 : List Int) (a2 : List Int) (x_10 : Int) : Option (Int ⊕ (Unit ⊕ Int)) :=
 if (decide (x_10 < (a1.length : Int))) = true then (if 0 ≤ x_10 ∧ x_10 < (a1.length : Int) then (if (decide ((gi a1 x_10) = a0)) = true then (if 0 ≤ x_10 ∧ x_10 < (a2.length : Int) then (((some (gi a2 x_10)).map Sum.inr).map Sum.inr) else none) else (some (Sum.inl (wrap64 (x_10 + 1))))) else none) else ((some (Sum.inl ())).map Sum.inr)
def selvageref15_pick.m (a0 : Int) (a1 : List Int) (a2 : List Int) : Option Int :=
 (loop (selvageref15_pick.l0 a0 a1 a2) 0 : Option (Unit ⊕ Int)).bind fun o_7 => match o_7 with | .inl s_9 => (some (-1)) | .inr r_35 => some r_35
set_option maxHeartbeats 4000000 in
set_option maxRecDepth 100000 in
theorem selvageref15_pick.calls (a0 : Int) (a1 : List Int) (A_1 : Option Addr) (c_2 : Nat) (a2 : List Int) (A_4 : Option Addr) (c_5 : Nat) (r : Int) (w : World) (F : Nat → Prop) (hF : ∀ k, F k → Off w [] k) (q_3 : RdS (intE .i64) F w A_1 c_2 a1) (q_6 : RdS (intE .i64) F w A_4 c_5 a2) (H : selvageref15_pick.m a0 a1 a2 = some r) :
 Ret Try.prog 47 [.int .i64 a0, .slice A_1 a1.length c_2, .slice A_4 a2.length c_5] w fun v w' => v = .int .i64 r ∧ Aft w w' [] [] := by
 unfold selvageref15_pick.m at H
 have hp0 := Hp.startR (R := []) (Have.nil w) hF
 have ep0 := Ep.refl F [] w
 refine enter (L := [(0, .int .i64 a0), (1, .slice A_1 a1.length c_2), (2, .slice A_4 a2.length c_5)]) Try.func47 rfl Try.ntmps47 rfl rfl ?_
 refine kq tb hp0 [] [] (by kernel_rfl) fun σ => ?_
 refine k_seq ?_
 refine kq tb hp0 [] [(7, .int .i64 0)] (by kernel_rfl) fun σ => ?_
 obtain ⟨o_7, H, G_8⟩ := bindSome H
 refine k_cut (fun a w' => ∃ (s_9 : Unit) (σ_36 : Nat → Value), o_7 = Sum.inl s_9 ∧ a = st 24 [] σ_36 [] ∧ Hp (On []) F w w w' []) ?_ ?_
 ·as_aux_lemma =>
  refine k_block ?_
  refine k_lp (fun (x_10 : Int) a w' => ∃ (σ_31 : Nat → Value), a = st 24 [(0, .int .i64 a0), (1, .slice A_1 a1.length c_2), (2, .slice A_4 a2.length c_5), (7, .int .i64 x_10)] σ_31 [] ∧ Hp (On []) F w w w' []) H ⟨_, seenF ⟨rfl, rfl, rfl, rfl, trivial⟩, hp0⟩ ?_
  clear H
  rintro x_10 a w' z_ ⟨σ_13, rfl, hp_14⟩ H hz_11
  unfold selvageref15_pick.l0 at H
  refine k_seq ?_
  refine kq tb hp_14 [] [(11, .bool (decide (x_10 < (a1.length : Int))))] (by kernel_rfl) fun σ => ?_
  refine k_if (tm rfl rfl) (fun h_17 => ?_) (fun h_17 => ?_)
  ·as_aux_lemma =>
   have H := ift h_17 H
   refine k_skip ?_
   refine k_seq ?_
   refine k_block ?_
   obtain ⟨g_18, H⟩ := grd H
   obtain ⟨a_23, cs_20, pl_21, q_22, rp_19⟩ := rd_idx q_3 g_18
   obtain rfl : cs_20 = [.int .i64 (gi a1 x_10)] := rp_19
   refine kqx tb hp_14 [⟨_, _, (hp_14.ep q_22)⟩] [.s 16 0 _ _ c_2 _ 1 _ pl_21 g_18] [] [] [] [(19, .bool (decide ((gi a1 x_10) = a0)))] (by kernel_rfl) fun σ => ?_
   refine k_if (tm rfl rfl) (fun h_24 => ?_) (fun h_24 => ?_)
   ·have H := ift h_24 H
    obtain ⟨g_25, H⟩ := grd H
    obtain ⟨a_30, cs_27, pl_28, q_29, rp_26⟩ := rd_idx q_6 g_25
    obtain rfl : cs_27 = [.int .i64 (gi a2 x_10)] := rp_26
    refine kqx tb hp_14 [⟨_, _, (hp_14.ep q_29)⟩] [.s 22 0 _ _ c_5 _ 1 _ pl_28 g_25] [] [] [] [(6, .int .i64 (gi a2 x_10))] (by kernel_rfl) fun σ => ?_
    refine k_ret ?_
    refine q_ret ?_
    refine q_ret ?_
    obtain ⟨v_, H', hv_⟩ := mapSome H
    have hv_ := hz_11 _ hv_
    subst hv_
    have H := H'
    clear H'
    obtain ⟨v_, H', hv_⟩ := mapSome H
    subst hv_
    have H := H'.trans (show some v_ = _ from G_8)
    obtain rfl := Option.some.inj H
    exact k_end rfl (.tmp rfl rfl .nil) rfl ⟨rfl, (hp_14).aft⟩
   have H := iff_ h_24 H
   refine k_skip ?_
   refine kr tb hp_14 [] [(7, .int .i64 (wrap64 (x_10 + 1)))] (by kernel_rfl) fun σ => ?_
   obtain rfl := Option.some.inj H
   exact ⟨_, rfl, ⟨_, seenF ⟨rfl, rfl, rfl, rfl, trivial⟩, hp_14⟩⟩
  have H := iff_ h_17 H
  refine k_exit ?_
  refine q_here ?_
  obtain ⟨v_, H', hv_⟩ := mapSome H
  have hv_ := hz_11 _ hv_
  subst hv_
  have H := H'
  clear H'
  obtain rfl := Option.some.inj H
  exact ⟨(), _, rfl, seenF trivial, hp_14⟩
 clear H
 rintro a w' ⟨s_9, σ_31, rfl, rfl, hp_32⟩
 have H := G_8
 refine kq tb hp_32 [] [(6, .int .i64 (-1))] (by kernel_rfl) fun σ => ?_
 refine k_ret ?_
 obtain rfl := Option.some.inj H
 exact k_end rfl (.tmp rfl rfl .nil) rfl ⟨rfl, (hp_32).aft⟩

/-! ### (selvage/selvageref15.word).put: function 46 -/
def selvageref15_word_put.l0 (a1 : Int) (x_9 : Int × Int) : Option ((Int × Int) ⊕ Int) :=
 if (decide (x_9.2 ≥ 0)) = true then (some (Sum.inl ((((x_9.1 * 2) % 4294967296) + ((bits .and .i64 (a1 / 2 ^ (min ((x_9.2) % 18446744073709551616).toNat 64)) 1) % 4294967296)) % 4294967296, wrap64 (x_9.2 - 1)))) else ((some x_9.1).map Sum.inr)
def selvageref15_word_put.m (a0 : selvageref15_word) (a1 : Int) (a2 : Int) : Option selvageref15_word :=
 (loop (selvageref15_word_put.l0 a1) (a0.w, wrap64 (a2 - 1)) : Option Int).bind fun o_7 => some (⟨o_7, wrap64 (a0.bits + a2)⟩ : selvageref15_word)
set_option maxHeartbeats 4000000 in
set_option maxRecDepth 100000 in
theorem selvageref15_word_put.calls (a0 : selvageref15_word) (a1 : Int) (a2 : Int) (r : selvageref15_word) (w : World) (H : selvageref15_word_put.m a0 a1 a2 = some r) :
 Ret Try.prog 46 [.agg #[.int .u32 a0.w, .int .i64 a0.bits], .int .i64 a1, .int .i64 a2] w fun v w' => v = .agg #[.int .u32 r.w, .int .i64 r.bits] ∧ Aft w w' [] [] := by
 unfold selvageref15_word_put.m at H
 have hp0 := Hp.startR (F := no) (R := []) (Have.nil w) (fun _ h => h.elim)
 have ep0 := Ep.refl no [] w
 refine enter (L := [(0, .agg #[.int .u32 a0.w, .int .i64 a0.bits]), (1, .int .i64 a1), (2, .int .i64 a2)]) Try.func46 rfl Try.ntmps46 rfl rfl ?_
 refine k_seq ?_
 refine k_region ?_
 refine s_box (l := [.int .u32 a0.w, .int .i64 a0.bits]) hp0 (tm rfl rfl) rfl rfl (fun b_1 w_2 hp_3 => ?_)
 refine s_alloc (zv := .agg #[.int .u32 0, .int .i64 0]) (l := [.int .u32 0, .int .i64 0]) hp_3 (by intro w_; kernel_rfl) rfl rfl (fun b_4 w_5 hp_6 => ?_)
 refine k_nil ?_
 refine k_seq ?_
 refine kq tb hp_6 [] [(7, .int .i64 (wrap64 (a2 - 1)))] (by kernel_rfl) fun σ => ?_
 obtain ⟨o_7, H, G_8⟩ := bindSome H
 refine k_cut (fun a w' => ∃ (σ_26 : Nat → Value), a = st 32 [(2, .int .i64 a2), (3, .pointer (some ⟨b_1, 0, none⟩)), (6, .pointer (some ⟨b_4, 0, none⟩))] σ_26 [] ∧ Hp (On []) no w w w' [[(b_1, .cells #[.int .u32 o_7, .int .i64 a0.bits] 103 (0, 0))], [(b_4, .cells #[.int .u32 0, .int .i64 0] 103 (0, 0))]]) ?_ ?_
 ·as_aux_lemma =>
  refine k_block ?_
  refine k_lp (fun (x_9 : Int × Int) a w' => ∃ (σ_19 : Nat → Value), a = st 32 [(1, .int .i64 a1), (2, .int .i64 a2), (3, .pointer (some ⟨b_1, 0, none⟩)), (6, .pointer (some ⟨b_4, 0, none⟩)), (7, .int .i64 x_9.2)] σ_19 [] ∧ Hp (On []) no w w w' [[(b_1, .cells #[.int .u32 x_9.1, .int .i64 a0.bits] 103 (0, 0))], [(b_4, .cells #[.int .u32 0, .int .i64 0] 103 (0, 0))]]) H ⟨_, seenF ⟨rfl, rfl, rfl, rfl, rfl, trivial⟩, hp_6⟩ ?_
  clear H
  rintro x_9 a w' z_ ⟨σ_12, rfl, hp_13⟩ H hz_10
  unfold selvageref15_word_put.l0 at H
  refine k_seq ?_
  refine kq tb hp_13 [] [(11, .bool (decide (x_9.2 ≥ 0)))] (by kernel_rfl) fun σ => ?_
  refine k_if (tm rfl rfl) (fun h_16 => ?_) (fun h_16 => ?_)
  ·have H := ift h_16 H
   refine k_skip ?_
   refine k_seq ?_
   refine k_block ?_
   refine k_region ?_
   refine sr tb hp_13 [(3, 0, 0)] 6 [(16, .int .u32 ((x_9.1 * 2) % 4294967296)), (17, .int .i64 a1), (19, .int .u64 ((x_9.2) % 18446744073709551616))] (by kernel_rfl) fun σ => ?_
   refine sv (v := .int .i64 (a1 / 2 ^ (min ((x_9.2) % 18446744073709551616).toNat 64))) rfl rfl rfl (e_bin (tm rfl rfl) (tm rfl rfl) (r_shr (Int.emod_nonneg _ (by decide)) (fdp _ _ rfl))) ?_
   refine sr tb hp_13 [(3, 0, 0)] 4 [(23, .int .u32 ((((x_9.1 * 2) % 4294967296) + ((bits .and .i64 (a1 / 2 ^ (min ((x_9.2) % 18446744073709551616).toNat 64)) 1) % 4294967296)) % 4294967296)), (24, .pointer (some ⟨b_1, 0, none⟩))] (by kernel_rfl) fun σ => ?_
   refine s_store (i := 0) (j := 0) (vs := [.int .u32 ((((x_9.1 * 2) % 4294967296) + ((bits .and .i64 (a1 / 2 ^ (min ((x_9.2) % 18446744073709551616).toNat 64)) 1) % 4294967296)) % 4294967296)]) (l' := [.int .u32 ((((x_9.1 * 2) % 4294967296) + ((bits .and .i64 (a1 / 2 ^ (min ((x_9.2) % 18446744073709551616).toNat 64)) 1) % 4294967296)) % 4294967296), .int .i64 a0.bits]) hp_13 (tm rfl rfl) (tm rfl rfl) rfl Try.sizeOf47 rfl rfl rfl rfl rfl rfl (fun w_17 hp_18 => ?_)
   refine k_nil ?_
   refine kr tb hp_18 [] [(7, .int .i64 (wrap64 (x_9.2 - 1)))] (by kernel_rfl) fun σ => ?_
   obtain rfl := Option.some.inj H
   exact ⟨_, rfl, ⟨_, seenF ⟨rfl, rfl, rfl, rfl, rfl, trivial⟩, hp_18⟩⟩
  have H := iff_ h_16 H
  refine k_exit ?_
  refine q_here ?_
  obtain ⟨v_, H', hv_⟩ := mapSome H
  have hv_ := hz_10 _ hv_
  subst hv_
  have H := H'
  clear H'
  obtain rfl := Option.some.inj H
  exact ⟨_, seenF ⟨rfl, rfl, rfl, trivial⟩, hp_13⟩
 clear H
 rintro a w' ⟨σ_19, rfl, hp_20⟩
 have H := G_8
 refine k_seq ?_
 refine k_region ?_
 refine sr tb hp_20 [(3, 0, 0)] 7 [(31, .agg #[.int .u32 o_7, .int .i64 (wrap64 (a0.bits + a2))])] (by kernel_rfl) fun σ => ?_
 refine s_store (i := 1) (j := 0) (vs := [.int .u32 o_7, .int .i64 (wrap64 (a0.bits + a2))]) (l' := [.int .u32 o_7, .int .i64 (wrap64 (a0.bits + a2))]) hp_20 (tm rfl rfl) (tm rfl rfl) rfl Try.sizeOf103 rfl rfl rfl rfl rfl rfl (fun w_23 hp_24 => ?_)
 refine k_nil ?_
 refine k_ret ?_
 obtain rfl := Option.some.inj H
 exact k_end rfl (.cell rfl rfl (r_loadA Try.isAgg103 Try.sizeOf103 rfl (cells_box (sz := 2) (hp_24.get (i := 1) (j := 0) rfl rfl) rfl)) .nil) rfl ⟨rfl, (hp_24.pick [] (by decide) rfl).aft⟩

end Go.Proofs.Ytcnchjlomcafeaa.W

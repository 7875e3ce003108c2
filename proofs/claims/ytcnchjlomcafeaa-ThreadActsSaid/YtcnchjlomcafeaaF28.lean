/- Functions of the program as plain Lean functions, and that the calls do what they say: written by w2.py. -/
import Derived.Test.YtcnchjlomcafeaaDefer
import Derived.Test.YtcnchjlomcafeaaTy
set_option linter.unusedVariables false
set_option linter.unusedSimpArgs false
set_option linter.unusedSectionVars false
namespace Go.Proofs.Ytcnchjlomcafeaa.W
open Go Go.RowKit Go.Proofs.Ytcnchjlomcafeaa.B
attribute [local irreducible] Go.wpList Go.Code.wp Go.Region.wanted Go.yielded
/-! ### selvage/selvageref08.Same: function 13 -/
def selvageref08_Same.l0 (a0 : List api_Act) (a1 : List api_Act) (x_11 : Int) : Option (Int ⊕ (Unit ⊕ Bool)) :=
  if (decide (x_11 < (a0.length : Int))) = true then (if 0 ≤ x_11 ∧ x_11 < (a0.length : Int) then (if 0 ≤ x_11 ∧ x_11 < (a1.length : Int) then (if (!((((gi a0 x_11).Kind) == ((gi a1 x_11).Kind)) && ((((gi a0 x_11).Loc) == ((gi a1 x_11).Loc)) && ((((gi a0 x_11).Old) == ((gi a1 x_11).Old)) && ((((gi a0 x_11).New) == ((gi a1 x_11).New)) && true))))) = true then (((some false).map Sum.inr).map Sum.inr) else (some (Sum.inl (wrap64 (x_11 + 1))))) else none) else none) else ((some (Sum.inl ())).map Sum.inr)
def selvageref08_Same.m (a0 : List api_Act) (a1 : List api_Act) : Option Bool :=
  if (!decide ((a0.length : Int) = (a1.length : Int))) = true then (some false) else ((loop (selvageref08_Same.l0 a0 a1) 0 : Option (Unit ⊕ Bool)).bind fun o_8 => match o_8 with | .inl s_10 => (some true) | .inr r_38 => some r_38)
set_option maxHeartbeats 4000000 in
set_option maxRecDepth 100000 in
theorem selvageref08_Same.calls (a0 : List api_Act) (A_1 : Option Addr) (c_2 : Nat) (a1 : List api_Act) (A_4 : Option Addr) (c_5 : Nat) (r : Bool) (w : World) (F : Nat → Prop) (hF : ∀ k, F k → Off w [] k) (q_3 : RdS api_Act_E F w A_1 c_2 a0) (q_6 : RdS api_Act_E F w A_4 c_5 a1) (H : selvageref08_Same.m a0 a1 = some r) :
    Ret Try.prog 13 [.slice A_1 a0.length c_2, .slice A_4 a1.length c_5] w fun v w' => v = .bool r ∧ Aft w w' [] [] := by
  unfold selvageref08_Same.m at H
  have hp0 := Hp.startR (R := []) (Have.nil w) hF
  have ep0 := Ep.refl F [] w
  refine enter (L := [(0, .slice A_1 a0.length c_2), (1, .slice A_4 a1.length c_5)]) Try.func13 rfl Try.ntmps13 rfl rfl ?_
  refine k_seq ?_
  refine k_region ?_
  refine sv (v := .bool false) rfl rfl rfl (e_assign rfl) ?_
  refine k_nil ?_
  refine k_seq ?_
  refine k_seq ?_
  refine k_region ?_
  refine sv (v := .slice A_1 a0.length c_2) rfl rfl rfl (e_move (tm rfl rfl)) ?_
  refine sv (v := .int .i64 (a0.length : Int)) rfl rfl rfl (e_builtin (.cons (tm rfl rfl) .nil) (r_lens Try.runUnderlying39)) ?_
  refine sv (v := .slice A_4 a1.length c_5) rfl rfl rfl (e_move (tm rfl rfl)) ?_
  refine sv (v := .int .i64 (a1.length : Int)) rfl rfl rfl (e_builtin (.cons (tm rfl rfl) .nil) (r_lens Try.runUnderlying39)) ?_
  refine sv (v := .bool (!decide ((a0.length : Int) = (a1.length : Int)))) rfl rfl rfl (e_bin (tm rfl rfl) (tm rfl rfl) (r_neq rfl)) ?_
  refine k_nil ?_
  refine k_if (tm rfl rfl) (fun h_7 => ?_) (fun h_7 => ?_)
  · have H := ift h_7 H
    refine k_seq ?_
    refine k_region ?_
    refine sv (v := .bool false) rfl rfl rfl (e_assign rfl) ?_
    refine k_nil ?_
    refine k_ret ?_
    obtain rfl := Option.some.inj H
    exact k_end rfl (.tmp rfl rfl .nil) rfl ⟨rfl, (hp0).aft⟩
  have H := iff_ h_7 H
  refine k_skip ?_
  refine k_seq ?_
  refine k_seq ?_
  refine k_region ?_
  refine sv (v := .int .i64 0) rfl rfl rfl (e_assign rfl) ?_
  refine k_nil ?_
  obtain ⟨o_8, H, G_9⟩ := bindSome H
  refine k_cut (fun a w' => ∃ (s_10 : Unit) (σ_39 : Nat → Value), o_8 = Sum.inl s_10 ∧ a = st 26 [] σ_39 [] ∧ Hp (On []) F w w w' []) ?_ ?_
  · as_aux_lemma =>
      refine k_block ?_
      refine k_lp (fun (x_11 : Int) a w' => ∃ (σ_34 : Nat → Value), a = st 26 [(0, .slice A_1 a0.length c_2), (1, .slice A_4 a1.length c_5), (5, .int .i64 x_11)] σ_34 [] ∧ Hp (On []) F w w w' []) H ⟨_, seenF ⟨rfl, rfl, rfl, trivial⟩, hp0⟩ ?_
      clear H
      rintro x_11 a w' z_ ⟨σ_14, rfl, hp_15⟩ H hz_12
      unfold selvageref08_Same.l0 at H
      refine k_seq ?_
      refine k_seq ?_
      refine k_region ?_
      refine sv (v := .int .i64 x_11) rfl rfl rfl (e_move (tm rfl rfl)) ?_
      refine sv (v := .slice A_1 a0.length c_2) rfl rfl rfl (e_move (tm rfl rfl)) ?_
      refine sv (v := .int .i64 (a0.length : Int)) rfl rfl rfl (e_builtin (.cons (tm rfl rfl) .nil) (r_lens Try.runUnderlying39)) ?_
      refine sv (v := .bool (decide (x_11 < (a0.length : Int)))) rfl rfl rfl (e_bin (tm rfl rfl) (tm rfl rfl) (r_lss rfl)) ?_
      refine k_nil ?_
      refine k_if (tm rfl rfl) (fun h_18 => ?_) (fun h_18 => ?_)
      · as_aux_lemma =>
          have H := ift h_18 H
          refine k_skip ?_
          refine k_seq ?_
          refine k_block ?_
          refine k_seq ?_
          refine k_any (WF F w [] [[], [], [], [], [], [], [], [], []] [0, 0, 3, 7, 0, 0, 48, 112, 255]) mixed hp_15 9 (by kernel_rfl) (fun w_19 hp_20 => ?_)
          refine w_take (m' := 1) (v := .slice A_1 a0.length c_2) 0 rfl rfl (by kernel_rfl) (by kernel_rfl) (by kernel_rfl) (by kernel_rfl) (by kernel_rfl) (by kernel_rfl) (by kernel_rfl) (po_then (po_x (po_x po_body))) (Wp.of hp_20 [] rfl) (y_val (fun w_ hW_ => e_move (tm rfl rfl))) ?_
          refine w_take (m' := 3) (v := .int .i64 x_11) 1 rfl rfl (by kernel_rfl) (by kernel_rfl) (by kernel_rfl) (by kernel_rfl) (by kernel_rfl) (by kernel_rfl) (by kernel_rfl) (po_then (po_x (po_x po_body))) (Wp.of hp_20 [] rfl) (y_val (fun w_ hW_ => e_move (tm rfl rfl))) ?_
          obtain ⟨g_21, H⟩ := grd H
          obtain ⟨a_26, cs_23, pl_24, q_25, rp_22⟩ := rd_idx q_3 g_21
          obtain rfl : cs_23 = [.int .i64 ((gi a0 x_11).Kind), .int .i64 ((gi a0 x_11).Loc), .int .i64 ((gi a0 x_11).Old), .int .i64 ((gi a0 x_11).New)] := rp_22
          refine w_take (m' := 7) (v := .pointer (some a_26)) 2 rfl rfl (by kernel_rfl) (by kernel_rfl) (by kernel_rfl) (by kernel_rfl) (by kernel_rfl) (by kernel_rfl) (by kernel_rfl) (po_then (po_x (po_x po_body))) (Wp.of hp_20 [] rfl) (y_val (fun w_ hW_ => e_idx (tm rfl rfl) (tm rfl rfl) Try.runUnderlying39 Try.sizeOf77 pl_24 g_21)) ?_
          refine w_take (m' := 15) (v := .agg #[.int .i64 ((gi a0 x_11).Kind), .int .i64 ((gi a0 x_11).Loc), .int .i64 ((gi a0 x_11).Old), .int .i64 ((gi a0 x_11).New)]) 3 rfl rfl (by kernel_rfl) (by kernel_rfl) (by kernel_rfl) (by kernel_rfl) (by kernel_rfl) (by kernel_rfl) (by kernel_rfl) (po_then (po_x (po_x po_body))) (Wp.of hp_20 [] rfl) (y_val (fun w_ hW_ => e_loadA (tm rfl rfl) Try.isAgg77 Try.sizeOf77 rfl ((hW_.ep q_25)))) ?_
          refine w_take (m' := 31) (v := .slice A_4 a1.length c_5) 4 rfl rfl (by kernel_rfl) (by kernel_rfl) (by kernel_rfl) (by kernel_rfl) (by kernel_rfl) (by kernel_rfl) (by kernel_rfl) (po_then (po_x (po_x po_body))) (Wp.of hp_20 [] rfl) (y_val (fun w_ hW_ => e_move (tm rfl rfl))) ?_
          refine w_take (m' := 63) (v := .int .i64 x_11) 5 rfl rfl (by kernel_rfl) (by kernel_rfl) (by kernel_rfl) (by kernel_rfl) (by kernel_rfl) (by kernel_rfl) (by kernel_rfl) (po_then (po_x (po_x po_body))) (Wp.of hp_20 [] rfl) (y_val (fun w_ hW_ => e_move (tm rfl rfl))) ?_
          obtain ⟨g_27, H⟩ := grd H
          obtain ⟨a_32, cs_29, pl_30, q_31, rp_28⟩ := rd_idx q_6 g_27
          obtain rfl : cs_29 = [.int .i64 ((gi a1 x_11).Kind), .int .i64 ((gi a1 x_11).Loc), .int .i64 ((gi a1 x_11).Old), .int .i64 ((gi a1 x_11).New)] := rp_28
          refine w_take (m' := 127) (v := .pointer (some a_32)) 6 rfl rfl (by kernel_rfl) (by kernel_rfl) (by kernel_rfl) (by kernel_rfl) (by kernel_rfl) (by kernel_rfl) (by kernel_rfl) (po_then (po_x (po_x po_body))) (Wp.of hp_20 [] rfl) (y_val (fun w_ hW_ => e_idx (tm rfl rfl) (tm rfl rfl) Try.runUnderlying39 Try.sizeOf77 pl_30 g_27)) ?_
          refine w_take (m' := 255) (v := .agg #[.int .i64 ((gi a1 x_11).Kind), .int .i64 ((gi a1 x_11).Loc), .int .i64 ((gi a1 x_11).Old), .int .i64 ((gi a1 x_11).New)]) 7 rfl rfl (by kernel_rfl) (by kernel_rfl) (by kernel_rfl) (by kernel_rfl) (by kernel_rfl) (by kernel_rfl) (by kernel_rfl) (po_then (po_x (po_x po_body))) (Wp.of hp_20 [] rfl) (y_val (fun w_ hW_ => e_loadA (tm rfl rfl) Try.isAgg77 Try.sizeOf77 rfl ((hW_.ep q_31)))) ?_
          refine w_take (m' := 511) (v := .bool (!((((gi a0 x_11).Kind) == ((gi a1 x_11).Kind)) && ((((gi a0 x_11).Loc) == ((gi a1 x_11).Loc)) && ((((gi a0 x_11).Old) == ((gi a1 x_11).Old)) && ((((gi a0 x_11).New) == ((gi a1 x_11).New)) && true)))))) 8 rfl rfl (by kernel_rfl) (by kernel_rfl) (by kernel_rfl) (by kernel_rfl) (by kernel_rfl) (by kernel_rfl) (by kernel_rfl) (po_then (po_x (po_x po_body))) (Wp.of hp_20 [] rfl) (y_val (fun w_ hW_ => e_bin (tm rfl rfl) (tm rfl rfl) (r_nes Try.underlying77 (by kernel_rfl) (by kernel_rfl) (q_cons rfl rfl rfl (q_int Try.underlying3) (q_cons rfl rfl rfl (q_int Try.underlying3) (q_cons rfl rfl rfl (q_int Try.underlying2) (q_cons rfl rfl rfl (q_int Try.underlying2) q_nil))))))) ?_
          refine w_done (by kernel_rfl) ?_
          refine k_if (tm rfl rfl) (fun h_33 => ?_) (fun h_33 => ?_)
          · have H := ift h_33 H
            refine k_seq ?_
            refine k_region ?_
            refine sv (v := .bool false) rfl rfl rfl (e_assign rfl) ?_
            refine k_nil ?_
            refine k_ret ?_
            refine q_ret ?_
            refine q_ret ?_
            obtain ⟨v_, H', hv_⟩ := mapSome H
            have hv_ := hz_12 _ hv_
            subst hv_
            have H := H'
            clear H'
            obtain ⟨v_, H', hv_⟩ := mapSome H
            subst hv_
            have H := H'.trans (show some v_ = _ from G_9)
            obtain rfl := Option.some.inj H
            exact k_end rfl (.tmp rfl rfl .nil) rfl ⟨rfl, (hp_20).aft⟩
          have H := iff_ h_33 H
          refine k_skip ?_
          refine k_region ?_
          refine sv (v := .int .i64 x_11) rfl rfl rfl (e_move (tm rfl rfl)) ?_
          refine sv (v := .int .i64 (wrap64 (x_11 + 1))) rfl rfl rfl (e_bin (tm rfl rfl) rfl (r_add (wrap_i64 _))) ?_
          refine sv (v := .int .i64 (wrap64 (x_11 + 1))) rfl rfl rfl (e_assign (tm rfl rfl)) ?_
          refine k_nil ?_
          obtain rfl := Option.some.inj H
          exact ⟨_, rfl, ⟨_, seenF ⟨rfl, rfl, rfl, trivial⟩, hp_20⟩⟩
      have H := iff_ h_18 H
      refine k_exit ?_
      refine q_here ?_
      obtain ⟨v_, H', hv_⟩ := mapSome H
      have hv_ := hz_12 _ hv_
      subst hv_
      have H := H'
      clear H'
      obtain rfl := Option.some.inj H
      exact ⟨(), _, rfl, seenF trivial, hp_15⟩
  clear H
  rintro a w' ⟨s_10, σ_34, rfl, rfl, hp_35⟩
  have H := G_9
  refine k_seq ?_
  refine k_region ?_
  refine sv (v := .bool true) rfl rfl rfl (e_assign rfl) ?_
  refine k_nil ?_
  refine k_ret ?_
  obtain rfl := Option.some.inj H
  exact k_end rfl (.tmp rfl rfl .nil) rfl ⟨rfl, (hp_35).aft⟩

end Go.Proofs.Ytcnchjlomcafeaa.W

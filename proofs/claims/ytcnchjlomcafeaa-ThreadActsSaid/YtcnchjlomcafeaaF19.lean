/- Functions of the program as plain Lean functions, and that the calls do what they say: written by w2.py. -/
import Derived.Test.YtcnchjlomcafeaaDefer
import Derived.Test.YtcnchjlomcafeaaTy
set_option linter.unusedVariables false
set_option linter.unusedSimpArgs false
set_option linter.unusedSectionVars false
namespace Go.Proofs.Ytcnchjlomcafeaa.W
open Go Go.RowKit Go.Proofs.Ytcnchjlomcafeaa.B
attribute [local irreducible] Go.wpList Go.Code.wp Go.Region.wanted Go.yielded
/-! ### selvage/selvageref16.Same: function 10 -/
def selvageref16_Same.l0 (a0 : api_Run) (a1 : api_Run) (x_17 : Int) : Option (Int ⊕ (Unit ⊕ Bool)) :=
  if (decide (x_17 < (a0.Events.length : Int))) = true then (if 0 ≤ x_17 ∧ x_17 < (a0.Events.length : Int) then (if 0 ≤ x_17 ∧ x_17 < (a1.Events.length : Int) then (if (!((((gi a0.Events x_17).Kind) == ((gi a1.Events x_17).Kind)) && ((((gi a0.Events x_17).Loc) == ((gi a1.Events x_17).Loc)) && ((((gi a0.Events x_17).Val) == ((gi a1.Events x_17).Val)) && ((((gi a0.Events x_17).Pair) == ((gi a1.Events x_17).Pair)) && ((((gi a0.Events x_17).Addr) == ((gi a1.Events x_17).Addr)) && ((((gi a0.Events x_17).Data) == ((gi a1.Events x_17).Data)) && ((((gi a0.Events x_17).Ctrl) == ((gi a1.Events x_17).Ctrl)) && ((((gi a0.Events x_17).Fenced) == ((gi a1.Events x_17).Fenced)) && true))))))))) = true then (((some false).map Sum.inr).map Sum.inr) else (some (Sum.inl (wrap64 (x_17 + 1))))) else none) else none) else ((some (Sum.inl ())).map Sum.inr)
def selvageref16_Same.m (a0 : api_Run) (a1 : api_Run) : Option Bool :=
  if ((!decide (a0.Status = a1.Status)) || (!decide ((a0.Events.length : Int) = (a1.Events.length : Int)))) = true then (some false) else ((loop (selvageref16_Same.l0 a0 a1) 0 : Option (Unit ⊕ Bool)).bind fun o_14 => match o_14 with | .inl s_16 => (some true) | .inr r_44 => some r_44)
set_option maxHeartbeats 4000000 in
set_option maxRecDepth 100000 in
theorem selvageref16_Same.calls (a0 : api_Run) (A_1 : Option Addr) (c_2 : Nat) (a1 : api_Run) (A_4 : Option Addr) (c_5 : Nat) (r : Bool) (w : World) (F : Nat → Prop) (hF : ∀ k, F k → Off w [] k) (q_3 : RdS api_Event_E F w A_1 c_2 a0.Events) (q_6 : RdS api_Event_E F w A_4 c_5 a1.Events) (H : selvageref16_Same.m a0 a1 = some r) :
    Ret Try.prog 10 [.agg #[.slice A_1 a0.Events.length c_2, .int .i64 a0.Status], .agg #[.slice A_4 a1.Events.length c_5, .int .i64 a1.Status]] w fun v w' => v = .bool r ∧ Aft w w' [] [] := by
  unfold selvageref16_Same.m at H
  have hp0 := Hp.startR (R := []) (Have.nil w) hF
  have ep0 := Ep.refl F [] w
  refine enter (L := [(0, .agg #[.slice A_1 a0.Events.length c_2, .int .i64 a0.Status]), (1, .agg #[.slice A_4 a1.Events.length c_5, .int .i64 a1.Status])]) Try.func10 rfl Try.ntmps10 rfl rfl ?_
  refine k_seq ?_
  refine k_region ?_
  refine s_box (l := [.slice A_1 a0.Events.length c_2, .int .i64 a0.Status]) hp0 (tm rfl rfl) rfl rfl (fun b_7 w_8 hp_9 => ?_)
  refine s_box (l := [.slice A_4 a1.Events.length c_5, .int .i64 a1.Status]) hp_9 (tm rfl rfl) rfl rfl (fun b_10 w_11 hp_12 => ?_)
  refine sv (v := .bool false) rfl rfl rfl (e_assign rfl) ?_
  refine k_nil ?_
  refine k_seq ?_
  refine k_seq ?_
  refine k_region ?_
  refine sv (v := .pointer (some ⟨b_7, 1, none⟩)) rfl rfl rfl (e_fieldAddr (tm rfl rfl) Try.runUnderlying28 rfl Try.sizeOf3 rfl rfl) ?_
  refine sv (v := .int .i64 a0.Status) rfl rfl rfl (e_load1 (tm rfl rfl) Try.isAgg3 (cell_atL (hp_12.get (i := 0) (j := 0) rfl rfl) rfl)) ?_
  refine sv (v := .pointer (some ⟨b_10, 1, none⟩)) rfl rfl rfl (e_fieldAddr (tm rfl rfl) Try.runUnderlying28 rfl Try.sizeOf3 rfl rfl) ?_
  refine sv (v := .int .i64 a1.Status) rfl rfl rfl (e_load1 (tm rfl rfl) Try.isAgg3 (cell_atL (hp_12.get (i := 1) (j := 0) rfl rfl) rfl)) ?_
  refine sv (v := .bool (!decide (a0.Status = a1.Status))) rfl rfl rfl (e_bin (tm rfl rfl) (tm rfl rfl) (r_neq rfl)) ?_
  refine sv (v := .bool (!decide (a0.Status = a1.Status))) rfl rfl rfl (e_move (tm rfl rfl)) ?_
  refine s_gp (v := .pointer (some ⟨b_7, 0, none⟩)) rfl rfl rfl (beq_f _) (fun g_ => e_fieldAddr (tm rfl rfl) Try.runUnderlying28 rfl Try.sizeOf26 rfl rfl) rfl ?_
  refine s_gp (v := .slice A_1 a0.Events.length c_2) rfl rfl rfl (beq_f _) (fun g_ => e_load1 (tmg (!(!decide (a0.Status = a1.Status))) (.pointer (some ⟨b_7, 0, none⟩)) rfl rfl g_) Try.isAgg26 (cell_atL (hp_12.get (i := 0) (j := 0) rfl rfl) rfl)) rfl ?_
  refine s_gp (v := .int .i64 (a0.Events.length : Int)) rfl rfl rfl (beq_f _) (fun g_ => e_builtin (.cons (tmg (!(!decide (a0.Status = a1.Status))) (.slice A_1 a0.Events.length c_2) rfl rfl g_) .nil) (r_lens Try.runUnderlying26)) rfl ?_
  refine s_gp (v := .pointer (some ⟨b_10, 0, none⟩)) rfl rfl rfl (beq_f _) (fun g_ => e_fieldAddr (tm rfl rfl) Try.runUnderlying28 rfl Try.sizeOf26 rfl rfl) rfl ?_
  refine s_gp (v := .slice A_4 a1.Events.length c_5) rfl rfl rfl (beq_f _) (fun g_ => e_load1 (tmg (!(!decide (a0.Status = a1.Status))) (.pointer (some ⟨b_10, 0, none⟩)) rfl rfl g_) Try.isAgg26 (cell_atL (hp_12.get (i := 1) (j := 0) rfl rfl) rfl)) rfl ?_
  refine s_gp (v := .int .i64 (a1.Events.length : Int)) rfl rfl rfl (beq_f _) (fun g_ => e_builtin (.cons (tmg (!(!decide (a0.Status = a1.Status))) (.slice A_4 a1.Events.length c_5) rfl rfl g_) .nil) (r_lens Try.runUnderlying26)) rfl ?_
  refine s_gp (v := .bool (!decide ((a0.Events.length : Int) = (a1.Events.length : Int)))) rfl rfl rfl (beq_f _) (fun g_ => e_bin (tmg (!(!decide (a0.Status = a1.Status))) (.int .i64 (a0.Events.length : Int)) rfl rfl g_) (tmg (!(!decide (a0.Status = a1.Status))) (.int .i64 (a1.Events.length : Int)) rfl rfl g_) (r_neq rfl)) rfl ?_
  refine sv (v := .bool ((!decide (a0.Status = a1.Status)) || (!decide ((a0.Events.length : Int) = (a1.Events.length : Int))))) rfl rfl rfl (e_pick (v1 := .bool true) (v2 := .bool (!decide ((a0.Events.length : Int) = (a1.Events.length : Int)))) (tm rfl rfl) (fun _ => rfl) (fun h_ => tmg (!(!decide (a0.Status = a1.Status))) (.bool (!decide ((a0.Events.length : Int) = (a1.Events.length : Int)))) rfl rfl (nt h_)) (pk_or (!decide (a0.Status = a1.Status)))) ?_
  refine k_nil ?_
  refine k_if (tm rfl rfl) (fun h_13 => ?_) (fun h_13 => ?_)
  · have H := ift h_13 H
    refine k_seq ?_
    refine k_region ?_
    refine sv (v := .bool false) rfl rfl rfl (e_assign rfl) ?_
    refine k_nil ?_
    refine k_ret ?_
    obtain rfl := Option.some.inj H
    exact k_end rfl (.tmp rfl rfl .nil) rfl ⟨rfl, (hp_12.pick [] (by decide) rfl).aft⟩
  have H := iff_ h_13 H
  refine k_skip ?_
  refine k_seq ?_
  refine k_seq ?_
  refine k_region ?_
  refine sv (v := .int .i64 0) rfl rfl rfl (e_assign rfl) ?_
  refine k_nil ?_
  obtain ⟨o_14, H, G_15⟩ := bindSome H
  refine k_cut (fun a w' => ∃ (s_16 : Unit) (σ_45 : Nat → Value), o_14 = Sum.inl s_16 ∧ a = st 38 [] σ_45 [] ∧ Hp (On []) F w w w' []) ?_ ?_
  · as_aux_lemma =>
      refine k_block ?_
      refine k_lp (fun (x_17 : Int) a w' => ∃ (σ_40 : Nat → Value), a = st 38 [(2, .pointer (some ⟨b_7, 0, none⟩)), (3, .pointer (some ⟨b_10, 0, none⟩)), (5, .int .i64 x_17)] σ_40 [] ∧ Hp (On []) F w w w' [[(b_7, .cells #[.slice A_1 a0.Events.length c_2, .int .i64 a0.Status] 28 (0, 0))], [(b_10, .cells #[.slice A_4 a1.Events.length c_5, .int .i64 a1.Status] 28 (0, 0))]]) H ⟨_, seenF ⟨rfl, rfl, rfl, trivial⟩, hp_12⟩ ?_
      clear H
      rintro x_17 a w' z_ ⟨σ_20, rfl, hp_21⟩ H hz_18
      unfold selvageref16_Same.l0 at H
      refine k_seq ?_
      refine k_seq ?_
      refine k_region ?_
      refine sv (v := .int .i64 x_17) rfl rfl rfl (e_move (tm rfl rfl)) ?_
      refine sv (v := .pointer (some ⟨b_7, 0, none⟩)) rfl rfl rfl (e_fieldAddr (tm rfl rfl) Try.runUnderlying28 rfl Try.sizeOf26 rfl rfl) ?_
      refine sv (v := .slice A_1 a0.Events.length c_2) rfl rfl rfl (e_load1 (tm rfl rfl) Try.isAgg26 (cell_atL (hp_21.get (i := 0) (j := 0) rfl rfl) rfl)) ?_
      refine sv (v := .int .i64 (a0.Events.length : Int)) rfl rfl rfl (e_builtin (.cons (tm rfl rfl) .nil) (r_lens Try.runUnderlying26)) ?_
      refine sv (v := .bool (decide (x_17 < (a0.Events.length : Int)))) rfl rfl rfl (e_bin (tm rfl rfl) (tm rfl rfl) (r_lss rfl)) ?_
      refine k_nil ?_
      refine k_if (tm rfl rfl) (fun h_24 => ?_) (fun h_24 => ?_)
      · as_aux_lemma =>
          have H := ift h_24 H
          refine k_skip ?_
          refine k_seq ?_
          refine k_block ?_
          refine k_seq ?_
          refine k_any (WF F w [[(b_7, .cells #[.slice A_1 a0.Events.length c_2, .int .i64 a0.Status] 28 (0, 0))], [(b_10, .cells #[.slice A_4 a1.Events.length c_5, .int .i64 a1.Status] 28 (0, 0))]] [[0, 1], [0, 1], [0, 1], [0, 1], [0, 1], [0, 1], [0, 1], [0, 1], [0, 1], [0, 1], [0, 1]] [0, 1, 0, 7, 15, 0, 32, 0, 224, 480, 1023]) mixed hp_21 11 (by kernel_rfl) (fun w_25 hp_26 => ?_)
          refine w_take (m' := 1) (v := .pointer (some ⟨b_7, 0, none⟩)) 0 rfl rfl (by kernel_rfl) (by kernel_rfl) (by kernel_rfl) (by kernel_rfl) (by kernel_rfl) (by kernel_rfl) (by kernel_rfl) (po_then (po_x (po_x po_body))) (Wp.of hp_26 [0, 1] rfl) (y_val (fun w_ hW_ => e_fieldAddr (tm rfl rfl) Try.runUnderlying28 rfl Try.sizeOf26 rfl rfl)) ?_
          refine w_take (m' := 5) (v := .int .i64 x_17) 2 rfl rfl (by kernel_rfl) (by kernel_rfl) (by kernel_rfl) (by kernel_rfl) (by kernel_rfl) (by kernel_rfl) (by kernel_rfl) (po_then (po_x (po_x po_body))) (Wp.of hp_26 [0, 1] rfl) (y_val (fun w_ hW_ => e_move (tm rfl rfl))) ?_
          refine w_take (m' := 37) (v := .pointer (some ⟨b_10, 0, none⟩)) 5 rfl rfl (by kernel_rfl) (by kernel_rfl) (by kernel_rfl) (by kernel_rfl) (by kernel_rfl) (by kernel_rfl) (by kernel_rfl) (po_then (po_x (po_x po_body))) (Wp.of hp_26 [0, 1] rfl) (y_val (fun w_ hW_ => e_fieldAddr (tm rfl rfl) Try.runUnderlying28 rfl Try.sizeOf26 rfl rfl)) ?_
          refine w_take (m' := 165) (v := .int .i64 x_17) 7 rfl rfl (by kernel_rfl) (by kernel_rfl) (by kernel_rfl) (by kernel_rfl) (by kernel_rfl) (by kernel_rfl) (by kernel_rfl) (po_then (po_x (po_x po_body))) (Wp.of hp_26 [0, 1] rfl) (y_val (fun w_ hW_ => e_move (tm rfl rfl))) ?_
          refine w_take (m' := 167) (v := .slice A_1 a0.Events.length c_2) 1 rfl rfl (by kernel_rfl) (by kernel_rfl) (by kernel_rfl) (by kernel_rfl) (by kernel_rfl) (by kernel_rfl) (by kernel_rfl) (po_then (po_x (po_x po_body))) (Wp.of hp_26 [0, 1] rfl) (y_val (fun w_ hW_ => e_load1 (tm rfl rfl) Try.isAgg26 (cell_atL (hW_.get (i := 0) (j := 0) rfl rfl) rfl))) ?_
          obtain ⟨g_27, H⟩ := grd H
          obtain ⟨a_32, cs_29, pl_30, q_31, rp_28⟩ := rd_idx q_3 g_27
          obtain rfl : cs_29 = [.int .i64 ((gi a0.Events x_17).Kind), .int .i64 ((gi a0.Events x_17).Loc), .int .i64 ((gi a0.Events x_17).Val), .int .i64 ((gi a0.Events x_17).Pair), .int .u64 ((gi a0.Events x_17).Addr), .int .u64 ((gi a0.Events x_17).Data), .int .u64 ((gi a0.Events x_17).Ctrl), .int .u64 ((gi a0.Events x_17).Fenced)] := rp_28
          refine w_take (m' := 175) (v := .pointer (some a_32)) 3 rfl rfl (by kernel_rfl) (by kernel_rfl) (by kernel_rfl) (by kernel_rfl) (by kernel_rfl) (by kernel_rfl) (by kernel_rfl) (po_then (po_x (po_x po_body))) (Wp.of hp_26 [0, 1] rfl) (y_val (fun w_ hW_ => e_idx (tm rfl rfl) (tm rfl rfl) Try.runUnderlying26 Try.sizeOf33 pl_30 g_27)) ?_
          refine w_take (m' := 191) (v := .agg #[.int .i64 ((gi a0.Events x_17).Kind), .int .i64 ((gi a0.Events x_17).Loc), .int .i64 ((gi a0.Events x_17).Val), .int .i64 ((gi a0.Events x_17).Pair), .int .u64 ((gi a0.Events x_17).Addr), .int .u64 ((gi a0.Events x_17).Data), .int .u64 ((gi a0.Events x_17).Ctrl), .int .u64 ((gi a0.Events x_17).Fenced)]) 4 rfl rfl (by kernel_rfl) (by kernel_rfl) (by kernel_rfl) (by kernel_rfl) (by kernel_rfl) (by kernel_rfl) (by kernel_rfl) (po_then (po_x (po_x po_body))) (Wp.of hp_26 [0, 1] rfl) (y_val (fun w_ hW_ => e_loadA (tm rfl rfl) Try.isAgg33 Try.sizeOf33 rfl ((hW_.ep q_31)))) ?_
          refine w_take (m' := 255) (v := .slice A_4 a1.Events.length c_5) 6 rfl rfl (by kernel_rfl) (by kernel_rfl) (by kernel_rfl) (by kernel_rfl) (by kernel_rfl) (by kernel_rfl) (by kernel_rfl) (po_then (po_x (po_x po_body))) (Wp.of hp_26 [0, 1] rfl) (y_val (fun w_ hW_ => e_load1 (tm rfl rfl) Try.isAgg26 (cell_atL (hW_.get (i := 1) (j := 0) rfl rfl) rfl))) ?_
          obtain ⟨g_33, H⟩ := grd H
          obtain ⟨a_38, cs_35, pl_36, q_37, rp_34⟩ := rd_idx q_6 g_33
          obtain rfl : cs_35 = [.int .i64 ((gi a1.Events x_17).Kind), .int .i64 ((gi a1.Events x_17).Loc), .int .i64 ((gi a1.Events x_17).Val), .int .i64 ((gi a1.Events x_17).Pair), .int .u64 ((gi a1.Events x_17).Addr), .int .u64 ((gi a1.Events x_17).Data), .int .u64 ((gi a1.Events x_17).Ctrl), .int .u64 ((gi a1.Events x_17).Fenced)] := rp_34
          refine w_take (m' := 511) (v := .pointer (some a_38)) 8 rfl rfl (by kernel_rfl) (by kernel_rfl) (by kernel_rfl) (by kernel_rfl) (by kernel_rfl) (by kernel_rfl) (by kernel_rfl) (po_then (po_x (po_x po_body))) (Wp.of hp_26 [0, 1] rfl) (y_val (fun w_ hW_ => e_idx (tm rfl rfl) (tm rfl rfl) Try.runUnderlying26 Try.sizeOf33 pl_36 g_33)) ?_
          refine w_take (m' := 1023) (v := .agg #[.int .i64 ((gi a1.Events x_17).Kind), .int .i64 ((gi a1.Events x_17).Loc), .int .i64 ((gi a1.Events x_17).Val), .int .i64 ((gi a1.Events x_17).Pair), .int .u64 ((gi a1.Events x_17).Addr), .int .u64 ((gi a1.Events x_17).Data), .int .u64 ((gi a1.Events x_17).Ctrl), .int .u64 ((gi a1.Events x_17).Fenced)]) 9 rfl rfl (by kernel_rfl) (by kernel_rfl) (by kernel_rfl) (by kernel_rfl) (by kernel_rfl) (by kernel_rfl) (by kernel_rfl) (po_then (po_x (po_x po_body))) (Wp.of hp_26 [0, 1] rfl) (y_val (fun w_ hW_ => e_loadA (tm rfl rfl) Try.isAgg33 Try.sizeOf33 rfl ((hW_.ep q_37)))) ?_
          refine w_take (m' := 2047) (v := .bool (!((((gi a0.Events x_17).Kind) == ((gi a1.Events x_17).Kind)) && ((((gi a0.Events x_17).Loc) == ((gi a1.Events x_17).Loc)) && ((((gi a0.Events x_17).Val) == ((gi a1.Events x_17).Val)) && ((((gi a0.Events x_17).Pair) == ((gi a1.Events x_17).Pair)) && ((((gi a0.Events x_17).Addr) == ((gi a1.Events x_17).Addr)) && ((((gi a0.Events x_17).Data) == ((gi a1.Events x_17).Data)) && ((((gi a0.Events x_17).Ctrl) == ((gi a1.Events x_17).Ctrl)) && ((((gi a0.Events x_17).Fenced) == ((gi a1.Events x_17).Fenced)) && true)))))))))) 10 rfl rfl (by kernel_rfl) (by kernel_rfl) (by kernel_rfl) (by kernel_rfl) (by kernel_rfl) (by kernel_rfl) (by kernel_rfl) (po_then (po_x (po_x po_body))) (Wp.of hp_26 [0, 1] rfl) (y_val (fun w_ hW_ => e_bin (tm rfl rfl) (tm rfl rfl) (r_nes Try.underlying33 (by kernel_rfl) (by kernel_rfl) (q_cons rfl rfl rfl (q_int Try.underlying3) (q_cons rfl rfl rfl (q_int Try.underlying3) (q_cons rfl rfl rfl (q_int Try.underlying2) (q_cons rfl rfl rfl (q_int Try.underlying3) (q_cons rfl rfl rfl (q_int Try.underlying31) (q_cons rfl rfl rfl (q_int Try.underlying31) (q_cons rfl rfl rfl (q_int Try.underlying31) (q_cons rfl rfl rfl (q_int Try.underlying31) q_nil))))))))))) ?_
          refine w_done (by kernel_rfl) ?_
          refine k_if (tm rfl rfl) (fun h_39 => ?_) (fun h_39 => ?_)
          · have H := ift h_39 H
            refine k_seq ?_
            refine k_region ?_
            refine sv (v := .bool false) rfl rfl rfl (e_assign rfl) ?_
            refine k_nil ?_
            refine k_ret ?_
            refine q_ret ?_
            refine q_ret ?_
            obtain ⟨v_, H', hv_⟩ := mapSome H
            have hv_ := hz_18 _ hv_
            subst hv_
            have H := H'
            clear H'
            obtain ⟨v_, H', hv_⟩ := mapSome H
            subst hv_
            have H := H'.trans (show some v_ = _ from G_15)
            obtain rfl := Option.some.inj H
            exact k_end rfl (.tmp rfl rfl .nil) rfl ⟨rfl, (hp_26.pick [] (by decide) rfl).aft⟩
          have H := iff_ h_39 H
          refine k_skip ?_
          refine k_region ?_
          refine sv (v := .int .i64 x_17) rfl rfl rfl (e_move (tm rfl rfl)) ?_
          refine sv (v := .int .i64 (wrap64 (x_17 + 1))) rfl rfl rfl (e_bin (tm rfl rfl) rfl (r_add (wrap_i64 _))) ?_
          refine sv (v := .int .i64 (wrap64 (x_17 + 1))) rfl rfl rfl (e_assign (tm rfl rfl)) ?_
          refine k_nil ?_
          obtain rfl := Option.some.inj H
          exact ⟨_, rfl, ⟨_, seenF ⟨rfl, rfl, rfl, trivial⟩, hp_26⟩⟩
      have H := iff_ h_24 H
      refine k_exit ?_
      refine q_here ?_
      obtain ⟨v_, H', hv_⟩ := mapSome H
      have hv_ := hz_18 _ hv_
      subst hv_
      have H := H'
      clear H'
      obtain rfl := Option.some.inj H
      exact ⟨(), _, rfl, seenF trivial, hp_21.pick [] (by decide) rfl⟩
  clear H
  rintro a w' ⟨s_16, σ_40, rfl, rfl, hp_41⟩
  have H := G_15
  refine k_seq ?_
  refine k_region ?_
  refine sv (v := .bool true) rfl rfl rfl (e_assign rfl) ?_
  refine k_nil ?_
  refine k_ret ?_
  obtain rfl := Option.some.inj H
  exact k_end rfl (.tmp rfl rfl .nil) rfl ⟨rfl, (hp_41).aft⟩

end Go.Proofs.Ytcnchjlomcafeaa.W

/- Functions of the program as plain Lean functions, and that the calls do what they say: written by w2.py. -/
import Derived.Test.YtcnchjlomcafeaaRun
import Derived.Test.YtcnchjlomcafeaaTy
set_option linter.unusedVariables false
set_option linter.unusedSimpArgs false
set_option linter.unusedSectionVars false
namespace Go.Proofs.Ytcnchjlomcafeaa.W
open Go Go.RowKit Go.Proofs.Ytcnchjlomcafeaa.B
attribute [local irreducible] Go.wpList Go.Code.wp Go.Region.wanted Go.yielded
/-! ### selvage/selvageref16.Same: function 10 -/
def selvageref16_Same.l0 (a0 : api_Run) (a1 : api_Run) (x_17 : Int) : Option (Int ⊕ (Unit ⊕ Bool)) :=
  if (decide (x_17 < (a0.Events.length : Int))) = true then (if 0 ≤ x_17 ∧ x_17 < (a0.Events.length : Int) then (if 0 ≤ x_17 ∧ x_17 < (a1.Events.length : Int) then (if (!((((gi a0.Events x_17).Kind) == ((gi a1.Events x_17).Kind)) && ((((gi a0.Events x_17).Loc) == ((gi a1.Events x_17).Loc)) && ((((gi a0.Events x_17).Val) == ((gi a1.Events x_17).Val)) && ((((gi a0.Events x_17).Pair) == ((gi a1.Events x_17).Pair)) && ((((gi a0.Events x_17).Addr) == ((gi a1.Events x_17).Addr)) && ((((gi a0.Events x_17).Data) == ((gi a1.Events x_17).Data)) && ((((gi a0.Events x_17).Ctrl) == ((gi a1.Events x_17).Ctrl)) && ((((gi a0.Events x_17).Fenced) == ((gi a1.Events x_17).Fenced)) && true))))))))) = true then (((some false).map Sum.inr).map Sum.inr) else (some (Sum.inl (wrap64 (x_17 + 1))))) else none) else none) else ((some (Sum.inl ())).map Sum.inr)
def selvageref16_Same.m (a0 : api_Run) (a1 : api_Run) : Option Bool :=
  if ((!decide (a0.Status = a1.Status)) || (!decide ((a0.Events.length : Int) = (a1.Events.length : Int)))) = true then (some false) else ((loop (selvageref16_Same.l0 a0 a1) 0 : Option (Unit ⊕ Bool)).bind fun o_14 => match o_14 with | .inl s_16 => (some true) | .inr r_44 => some r_44)
set_option maxHeartbeats 4000000 in
set_option maxRecDepth 100000 in
theorem selvageref16_Same.calls (a0 : api_Run) (A_1 : Option Addr) (c_2 : Nat) (a1 : api_Run) (A_4 : Option Addr) (c_5 : Nat) (r : Bool) (w : World) (F : Nat → Prop) (hF : ∀ k, F k → Off w [] k) (q_3 : RdS api_Event_E F w A_1 c_2 a0.Events) (q_6 : RdS api_Event_E F w A_4 c_5 a1.Events) (H : selvageref16_Same.m a0 a1 = some r) :
    Ret Try.prog 10 [.agg #[.slice A_1 a0.Events.length c_2, .int .i64 a0.Status], .agg #[.slice A_4 a1.Events.length c_5, .int .i64 a1.Status]] w fun v w' => v = .bool r ∧ Aft w w' [] [] := by
  unfold selvageref16_Same.m at H
  have hp0 := Hp.startR (R := []) (Have.nil w) hF
  have ep0 := Ep.refl F [] w
  refine enter (L := [(0, .agg #[.slice A_1 a0.Events.length c_2, .int .i64 a0.Status]), (1, .agg #[.slice A_4 a1.Events.length c_5, .int .i64 a1.Status])]) Try.func10 rfl Try.ntmps10 rfl rfl ?_
  refine k_seq ?_
  refine k_region ?_
  refine s_box (l := [.slice A_1 a0.Events.length c_2, .int .i64 a0.Status]) hp0 (tm rfl rfl) rfl rfl (fun b_7 w_8 hp_9 => ?_)
  refine s_box (l := [.slice A_4 a1.Events.length c_5, .int .i64 a1.Status]) hp_9 (tm rfl rfl) rfl rfl (fun b_10 w_11 hp_12 => ?_)
  refine sv (v := .bool false) rfl rfl rfl (e_assign rfl) ?_
  refine k_nil ?_
  refine k_seq ?_
  refine kq tb hp_12 [(2, 0, 0), (3, 1, 0)] [(19, .bool ((!decide (a0.Status = a1.Status)) || (!decide ((a0.Events.length : Int) = (a1.Events.length : Int)))))] (by kernel_rfl) fun σ => ?_
  refine k_if (tm rfl rfl) (fun h_13 => ?_) (fun h_13 => ?_)
  · have H := ift h_13 H
    refine kq tb hp_12 [] [(4, .bool false)] (by kernel_rfl) fun σ => ?_
    refine k_ret ?_
    obtain rfl := Option.some.inj H
    exact k_end rfl (.tmp rfl rfl .nil) rfl ⟨rfl, (hp_12.pick [] (by decide) rfl).aft⟩
  have H := iff_ h_13 H
  refine k_skip ?_
  refine k_seq ?_
  refine kq tb hp_12 [] [(5, .int .i64 0)] (by kernel_rfl) fun σ => ?_
  obtain ⟨o_14, H, G_15⟩ := bindSome H
  refine k_cut (fun a w' => ∃ (s_16 : Unit) (σ_45 : Nat → Value), o_14 = Sum.inl s_16 ∧ a = st 38 [] σ_45 [] ∧ Hp (On []) F w w w' []) ?_ ?_
  · as_aux_lemma =>
      refine k_block ?_
      refine k_lp (fun (x_17 : Int) a w' => ∃ (σ_40 : Nat → Value), a = st 38 [(2, .pointer (some ⟨b_7, 0, none⟩)), (3, .pointer (some ⟨b_10, 0, none⟩)), (5, .int .i64 x_17)] σ_40 [] ∧ Hp (On []) F w w w' [[(b_7, .cells #[.slice A_1 a0.Events.length c_2, .int .i64 a0.Status] 28 (0, 0))], [(b_10, .cells #[.slice A_4 a1.Events.length c_5, .int .i64 a1.Status] 28 (0, 0))]]) H ⟨_, seenF ⟨rfl, rfl, rfl, trivial⟩, hp_12⟩ ?_
      clear H
      rintro x_17 a w' z_ ⟨σ_20, rfl, hp_21⟩ H hz_18
      unfold selvageref16_Same.l0 at H
      refine k_seq ?_
      refine kq tb hp_21 [(2, 0, 0)] [(24, .bool (decide (x_17 < (a0.Events.length : Int))))] (by kernel_rfl) fun σ => ?_
      refine k_if (tm rfl rfl) (fun h_24 => ?_) (fun h_24 => ?_)
      · as_aux_lemma =>
          have H := ift h_24 H
          refine k_skip ?_
          refine k_seq ?_
          refine k_block ?_
          refine k_seq ?_
          refine k_anyF [[0, 1], [0, 1], [0, 1], [0, 1], [0, 1], [0, 1], [0, 1], [0, 1], [0, 1], [0, 1], [0, 1]] [0, 1, 0, 7, 15, 0, 32, 0, 224, 480, 1023] mixed hp_21 11 (by kernel_rfl) (fun w_25 hp_26 => ?_)
          obtain ⟨g_27, H⟩ := grd H
          obtain ⟨a_32, cs_29, pl_30, q_31, rp_28⟩ := rd_idx q_3 g_27
          obtain rfl : cs_29 = [.int .i64 ((gi a0.Events x_17).Kind), .int .i64 ((gi a0.Events x_17).Loc), .int .i64 ((gi a0.Events x_17).Val), .int .i64 ((gi a0.Events x_17).Pair), .int .u64 ((gi a0.Events x_17).Addr), .int .u64 ((gi a0.Events x_17).Data), .int .u64 ((gi a0.Events x_17).Ctrl), .int .u64 ((gi a0.Events x_17).Fenced)] := rp_28
          obtain ⟨g_33, H⟩ := grd H
          obtain ⟨a_38, cs_35, pl_36, q_37, rp_34⟩ := rd_idx q_6 g_33
          obtain rfl : cs_35 = [.int .i64 ((gi a1.Events x_17).Kind), .int .i64 ((gi a1.Events x_17).Loc), .int .i64 ((gi a1.Events x_17).Val), .int .i64 ((gi a1.Events x_17).Pair), .int .u64 ((gi a1.Events x_17).Addr), .int .u64 ((gi a1.Events x_17).Data), .int .u64 ((gi a1.Events x_17).Ctrl), .int .u64 ((gi a1.Events x_17).Fenced)] := rp_34
          refine w_takes (f := 1) tb [0, 1] (Wp.of hp_26 [0, 1] rfl) [⟨_, _, [], fun w h => h.ep q_31⟩, ⟨_, _, [], fun w h => h.ep q_37⟩] [.s 30 2 _ _ c_2 _ 8 _ pl_30 g_27, .s 35 3 _ _ c_5 _ 8 _ pl_36 g_33] [] [(2, 0, 0), (3, 1, 0)] [] [0, 2, 5, 7, 1, 3, 4, 6, 8, 9] 1023 [(31, .agg #[.int .i64 ((gi a0.Events x_17).Kind), .int .i64 ((gi a0.Events x_17).Loc), .int .i64 ((gi a0.Events x_17).Val), .int .i64 ((gi a0.Events x_17).Pair), .int .u64 ((gi a0.Events x_17).Addr), .int .u64 ((gi a0.Events x_17).Data), .int .u64 ((gi a0.Events x_17).Ctrl), .int .u64 ((gi a0.Events x_17).Fenced)]), (36, .agg #[.int .i64 ((gi a1.Events x_17).Kind), .int .i64 ((gi a1.Events x_17).Loc), .int .i64 ((gi a1.Events x_17).Val), .int .i64 ((gi a1.Events x_17).Pair), .int .u64 ((gi a1.Events x_17).Addr), .int .u64 ((gi a1.Events x_17).Data), .int .u64 ((gi a1.Events x_17).Ctrl), .int .u64 ((gi a1.Events x_17).Fenced)])] (fun _ => (po_then (po_x (po_x po_body)))) rfl rfl (by kernel_rfl) fun σ => ?_
          refine w_take (m' := 2047) (v := .bool (!((((gi a0.Events x_17).Kind) == ((gi a1.Events x_17).Kind)) && ((((gi a0.Events x_17).Loc) == ((gi a1.Events x_17).Loc)) && ((((gi a0.Events x_17).Val) == ((gi a1.Events x_17).Val)) && ((((gi a0.Events x_17).Pair) == ((gi a1.Events x_17).Pair)) && ((((gi a0.Events x_17).Addr) == ((gi a1.Events x_17).Addr)) && ((((gi a0.Events x_17).Data) == ((gi a1.Events x_17).Data)) && ((((gi a0.Events x_17).Ctrl) == ((gi a1.Events x_17).Ctrl)) && ((((gi a0.Events x_17).Fenced) == ((gi a1.Events x_17).Fenced)) && true)))))))))) 10 rfl rfl (by kernel_rfl) (by kernel_rfl) (by kernel_rfl) (by kernel_rfl) (by kernel_rfl) (by kernel_rfl) (by kernel_rfl) (po_then (po_x (po_x po_body))) (Wp.of hp_26 [0, 1] rfl) (y_val (fun w_ hW_ => e_bin (tm rfl rfl) (tm rfl rfl) (r_nes Try.underlying33 (by kernel_rfl) (by kernel_rfl) (q_cons rfl rfl rfl (q_int Try.underlying3) (q_cons rfl rfl rfl (q_int Try.underlying3) (q_cons rfl rfl rfl (q_int Try.underlying2) (q_cons rfl rfl rfl (q_int Try.underlying3) (q_cons rfl rfl rfl (q_int Try.underlying31) (q_cons rfl rfl rfl (q_int Try.underlying31) (q_cons rfl rfl rfl (q_int Try.underlying31) (q_cons rfl rfl rfl (q_int Try.underlying31) q_nil))))))))))) ?_
          refine w_done (by kernel_rfl) ?_
          refine k_if (tm rfl rfl) (fun h_39 => ?_) (fun h_39 => ?_)
          · have H := ift h_39 H
            refine kq tb hp_26 [] [(4, .bool false)] (by kernel_rfl) fun σ => ?_
            refine k_ret ?_
            refine q_ret ?_
            refine q_ret ?_
            obtain ⟨v_, H', hv_⟩ := mapSome H
            have hv_ := hz_18 _ hv_
            subst hv_
            have H := H'
            clear H'
            obtain ⟨v_, H', hv_⟩ := mapSome H
            subst hv_
            have H := H'.trans (show some v_ = _ from G_15)
            obtain rfl := Option.some.inj H
            exact k_end rfl (.tmp rfl rfl .nil) rfl ⟨rfl, (hp_26.pick [] (by decide) rfl).aft⟩
          have H := iff_ h_39 H
          refine k_skip ?_
          refine kr tb hp_26 [] [(5, .int .i64 (wrap64 (x_17 + 1)))] (by kernel_rfl) fun σ => ?_
          obtain rfl := Option.some.inj H
          exact ⟨_, rfl, ⟨_, seenF ⟨rfl, rfl, rfl, trivial⟩, hp_26⟩⟩
      have H := iff_ h_24 H
      refine k_exit ?_
      refine q_here ?_
      obtain ⟨v_, H', hv_⟩ := mapSome H
      have hv_ := hz_18 _ hv_
      subst hv_
      have H := H'
      clear H'
      obtain rfl := Option.some.inj H
      exact ⟨(), _, rfl, seenF trivial, hp_21.pick [] (by decide) rfl⟩
  clear H
  rintro a w' ⟨s_16, σ_40, rfl, rfl, hp_41⟩
  have H := G_15
  refine kq tb hp_41 [] [(4, .bool true)] (by kernel_rfl) fun σ => ?_
  refine k_ret ?_
  obtain rfl := Option.some.inj H
  exact k_end rfl (.tmp rfl rfl .nil) rfl ⟨rfl, (hp_41).aft⟩

end Go.Proofs.Ytcnchjlomcafeaa.W

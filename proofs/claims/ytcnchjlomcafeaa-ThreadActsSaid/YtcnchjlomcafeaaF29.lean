/- Functions of the program as plain Lean functions, and that the calls do what they say: written by w2.py. -/
import Derived.Test.YtcnchjlomcafeaaDefer
import Derived.Test.YtcnchjlomcafeaaTy
import Derived.Test.YtcnchjlomcafeaaF20
import Derived.Test.YtcnchjlomcafeaaF25
import Derived.Test.YtcnchjlomcafeaaF27
import Derived.Test.YtcnchjlomcafeaaF28
set_option linter.unusedVariables false
set_option linter.unusedSimpArgs false
set_option linter.unusedSectionVars false
namespace Go.Proofs.Ytcnchjlomcafeaa.W
open Go Go.RowKit Go.Proofs.Ytcnchjlomcafeaa.B
attribute [local irreducible] Go.wpList Go.Code.wp Go.Region.wanted Go.yielded
/-! ### selvage/selvagelaw16.ThreadActs: function 7 -/
def selvagelaw16_ThreadActs.m (a0 : List api_Event) (a1 : List api_Loc) : Option Bool :=
  (selvagelaw16_awake.m).bind fun r_9 => (if (!r_9) = true then (some false) else (if (decide ((a0.length : Int) > 100)) = true then (some true) else ((thread_Acts.m a0 a1).bind fun r_18 => ((selvageref16_Acts.m a0 a1).bind fun r_29 => ((selvageref08_Same.m r_18 r_29).bind fun r_40 => (some r_40))))))
set_option maxHeartbeats 4000000 in
set_option maxRecDepth 100000 in
theorem selvagelaw16_ThreadActs.calls (a0 : List api_Event) (A_1 : Option Addr) (c_2 : Nat) (a1 : List api_Loc) (A_4 : Option Addr) (c_5 : Nat) (r : Bool) (w : World) (F : Nat → Prop) (hF : ∀ k, F k → Off w [] k) (q_3 : RdS api_Event_E F w A_1 c_2 a0) (q_6 : RdS api_Loc_E F w A_4 c_5 a1) (H : selvagelaw16_ThreadActs.m a0 a1 = some r) :
    Ret Try.prog 7 [.slice A_1 a0.length c_2, .slice A_4 a1.length c_5] w fun v w' => v = .bool r ∧ Aft w w' [] [] := by
  unfold selvagelaw16_ThreadActs.m at H
  have hp0 := Hp.startR (R := []) (Have.nil w) hF
  have ep0 := Ep.refl F [] w
  refine enter (L := [(0, .slice A_1 a0.length c_2), (1, .slice A_4 a1.length c_5)]) Try.func7 rfl Try.ntmps7 rfl rfl ?_
  refine k_seq ?_
  refine k_region ?_
  refine sv (v := .bool false) rfl rfl rfl (e_assign rfl) ?_
  refine k_nil ?_
  refine k_seq ?_
  refine k_seq ?_
  refine k_region ?_
  obtain ⟨r_9, hx_8, H⟩ := bindSome H
  refine s_call .nil Try.call9 (selvagelaw16_awake.calls r_9 _ hx_8) rfl ?_
  rintro v_ w_10 ⟨rfl, af_13⟩
  have hp_11 := Hp.callA af_13 hp0
  refine sv (v := .bool (!r_9)) rfl rfl rfl (e_un (tm rfl rfl) (r_not rfl)) ?_
  refine k_nil ?_
  refine k_if (tm rfl rfl) (fun h_14 => ?_) (fun h_14 => ?_)
  · have H := ift h_14 H
    refine k_seq ?_
    refine k_region ?_
    refine sv (v := .bool false) rfl rfl rfl (e_assign rfl) ?_
    refine k_nil ?_
    refine k_ret ?_
    obtain rfl := Option.some.inj H
    exact k_end rfl (.tmp rfl rfl .nil) rfl ⟨rfl, (hp_11).aft⟩
  have H := iff_ h_14 H
  refine k_skip ?_
  refine k_seq ?_
  refine k_seq ?_
  refine k_region ?_
  refine sv (v := .slice A_1 a0.length c_2) rfl rfl rfl (e_move (tm rfl rfl)) ?_
  refine sv (v := .int .i64 (a0.length : Int)) rfl rfl rfl (e_builtin (.cons (tm rfl rfl) .nil) (r_lens Try.runUnderlying26)) ?_
  refine sv (v := .bool (decide ((a0.length : Int) > 100))) rfl rfl rfl (e_bin (tm rfl rfl) rfl (r_gtr rfl)) ?_
  refine k_nil ?_
  refine k_if (tm rfl rfl) (fun h_15 => ?_) (fun h_15 => ?_)
  · have H := ift h_15 H
    refine k_seq ?_
    refine k_region ?_
    refine sv (v := .bool true) rfl rfl rfl (e_assign rfl) ?_
    refine k_nil ?_
    refine k_ret ?_
    obtain rfl := Option.some.inj H
    exact k_end rfl (.tmp rfl rfl .nil) rfl ⟨rfl, (hp_11).aft⟩
  have H := iff_ h_15 H
  refine k_skip ?_
  refine k_seq ?_
  refine k_region ?_
  refine sv (v := .slice A_1 a0.length c_2) rfl rfl rfl (e_move (tm rfl rfl)) ?_
  refine sv (v := .slice A_4 a1.length c_5) rfl rfl rfl (e_move (tm rfl rfl)) ?_
  obtain ⟨r_18, hx_17, H⟩ := bindSome H
  refine s_call (.cons (tm rfl rfl) (.cons (tm rfl rfl) .nil)) Try.call14 (thread_Acts.calls a0 A_1 c_2 a1 A_4 c_5 r_18 _ _ (Hp.offCov hp_11 [] [] rfl) (RdS.pass q_3 hp_11) (RdS.pass q_6 hp_11) hx_17) rfl ?_
  rintro v_ w_19 ⟨A_23, c_24, X_26, rfl, q_25, af_22⟩
  have hp_20 := Hp.callA af_22 hp_11
  refine sv (v := .slice A_1 a0.length c_2) rfl rfl rfl (e_move (tm rfl rfl)) ?_
  refine sv (v := .slice A_4 a1.length c_5) rfl rfl rfl (e_move (tm rfl rfl)) ?_
  obtain ⟨r_29, hx_28, H⟩ := bindSome H
  refine s_call (.cons (tm rfl rfl) (.cons (tm rfl rfl) .nil)) Try.call15 (selvageref16_Acts.calls a0 A_1 c_2 a1 A_4 c_5 r_29 _ _ (Hp.offCov hp_20 [] [X_26] rfl) (RdS.pass q_3 hp_20) (RdS.pass q_6 hp_20) hx_28) rfl ?_
  rintro v_ w_30 ⟨A_34, c_35, X_37, rfl, q_36, af_33⟩
  have hp_31 := Hp.callA af_33 hp_20
  obtain ⟨r_40, hx_39, H⟩ := bindSome H
  refine s_call (.cons (tm rfl rfl) (.cons (tm rfl rfl) .nil)) Try.call13 (selvageref08_Same.calls r_18 A_23 c_24 r_29 A_34 c_35 r_40 _ _ (Hp.offCov hp_31 [] [X_37, X_26] rfl) (Own.pass (Own.any q_25) hp_31 (subRest [] [X_37, X_26] rfl) (i := 1) rfl) (Own.pass (Own.any q_36) hp_31 (subRest [] [X_37, X_26] rfl) (i := 0) rfl) hx_39) rfl ?_
  rintro v_ w_41 ⟨rfl, af_44⟩
  have hp_42 := Hp.callA af_44 hp_31
  refine sv (v := .bool r_40) rfl rfl rfl (e_assign (tm rfl rfl)) ?_
  refine k_nil ?_
  refine k_ret ?_
  obtain rfl := Option.some.inj H
  exact k_end rfl (.tmp rfl rfl .nil) rfl ⟨rfl, (hp_42.pick [] (by decide) rfl).aft⟩

end Go.Proofs.Ytcnchjlomcafeaa.W

/- Functions of the program as plain Lean functions, and that the calls do what they say: written by w2.py. -/
import Derived.Test.YtcnchjlomcafeaaRun
import Derived.Test.YtcnchjlomcafeaaTy
import Derived.Test.YtcnchjlomcafeaaF18
import Derived.Test.YtcnchjlomcafeaaF19
import Derived.Test.YtcnchjlomcafeaaF20
import Derived.Test.YtcnchjlomcafeaaF46
set_option linter.unusedVariables false
set_option linter.unusedSimpArgs false
set_option linter.unusedSectionVars false
namespace Go.Proofs.Ytcnchjlomcafeaa.W
open Go Go.RowKit Go.Proofs.Ytcnchjlomcafeaa.B
attribute [local irreducible] Go.wpList Go.Code.wp Go.Region.wanted Go.yielded
/-! ### selvage/selvagelaw16.ThreadRuns: function 3 -/
def selvagelaw16_ThreadRuns.m (a0 : List api_Inst) (a1 : Int) (a2 : Int) (a3 : List Int) : Option Bool :=
  (selvagelaw16_awake.m).bind fun r_9 => (if (!r_9) = true then (some false) else (if ((decide ((a0.length : Int) > 300)) || (decide ((a3.length : Int) > 100))) = true then (some true) else ((thread_Do.m a0 a1 a2 a3).bind fun r_18 => ((selvageref16_Do.m a0 a1 a2 a3).bind fun r_29 => ((selvageref16_Same.m r_18 r_29).bind fun r_45 => (some r_45))))))
set_option maxHeartbeats 4000000 in
set_option maxRecDepth 100000 in
theorem selvagelaw16_ThreadRuns.calls (a0 : List api_Inst) (A_1 : Option Addr) (c_2 : Nat) (a1 : Int) (a2 : Int) (a3 : List Int) (A_4 : Option Addr) (c_5 : Nat) (r : Bool) (w : World) (F : Nat → Prop) (hF : ∀ k, F k → Off w [] k) (q_3 : RdS api_Inst_E F w A_1 c_2 a0) (q_6 : RdS (intE .i64) F w A_4 c_5 a3) (H : selvagelaw16_ThreadRuns.m a0 a1 a2 a3 = some r) :
    Ret Try.prog 3 [.slice A_1 a0.length c_2, .int .i64 a1, .int .i64 a2, .slice A_4 a3.length c_5] w fun v w' => ∃ (I_ : Nat → Prop), v = .bool r ∧ Frz F [] w I_ w' [] ∧ Aft w w' [] [] := by
  unfold selvagelaw16_ThreadRuns.m at H
  have hp0 := Hp.startR (R := []) (Have.nil w) hF
  have ep0 := Ep.refl F [] w
  refine enter (L := [(0, .slice A_1 a0.length c_2), (1, .int .i64 a1), (2, .int .i64 a2), (3, .slice A_4 a3.length c_5)]) Try.func3 rfl Try.ntmps3 rfl rfl ?_
  refine kq tb hp0 [] [] (by kernel_rfl) fun σ => ?_
  refine k_seq ?_
  refine k_seq ?_
  refine k_region ?_
  obtain ⟨r_9, hx_8, H⟩ := bindSome H
  refine s_call .nil Try.call9 (selvagelaw16_awake.calls r_9 _ hx_8) rfl ?_
  rintro v_ w_10 ⟨rfl, af_13⟩
  have hp_11 := Hp.callA af_13 hp0
  refine sv (v := .bool (!r_9)) rfl rfl rfl (e_un (tm rfl rfl) (r_not rfl)) ?_
  refine k_nil ?_
  refine k_if (tm rfl rfl) (fun h_14 => ?_) (fun h_14 => ?_)
  · have H := ift h_14 H
    refine kq tb hp_11 [] [(8, .bool false)] (by kernel_rfl) fun σ => ?_
    refine k_ret ?_
    obtain rfl := Option.some.inj H
    exact k_end rfl (.tmp rfl rfl .nil) rfl ⟨_, rfl, (Ep.frz ep0 (hp_11)), (hp_11).aft⟩
  have H := iff_ h_14 H
  refine k_skip ?_
  refine k_seq ?_
  refine kq tb hp_11 [] [(18, .bool ((decide ((a0.length : Int) > 300)) || (decide ((a3.length : Int) > 100))))] (by kernel_rfl) fun σ => ?_
  refine k_if (tm rfl rfl) (fun h_15 => ?_) (fun h_15 => ?_)
  · have H := ift h_15 H
    refine kq tb hp_11 [] [(8, .bool true)] (by kernel_rfl) fun σ => ?_
    refine k_ret ?_
    obtain rfl := Option.some.inj H
    exact k_end rfl (.tmp rfl rfl .nil) rfl ⟨_, rfl, (Ep.frz ep0 (hp_11)), (hp_11).aft⟩
  have H := iff_ h_15 H
  refine k_skip ?_
  refine k_seq ?_
  refine k_region ?_
  refine sr tb hp_11 [] 4 [(19, .slice A_1 a0.length c_2), (20, .int .i64 a1), (21, .int .i64 a2), (22, .slice A_4 a3.length c_5)] (by kernel_rfl) fun σ => ?_
  obtain ⟨r_18, hx_17, H⟩ := bindSome H
  refine s_call (.cons (tm rfl rfl) (.cons (tm rfl rfl) (.cons (tm rfl rfl) (.cons (tm rfl rfl) .nil)))) Try.call11 (thread_Do.calls a0 A_1 c_2 a1 a2 a3 A_4 c_5 r_18 _ _ (Hp.offCov hp_11 [] [] rfl) (RdS.pass q_3 hp_11) (RdS.pass q_6 hp_11) hx_17) rfl ?_
  rintro v_ w_19 ⟨A_23, c_24, X_26, rfl, q_25, af_22⟩
  have hp_20 := Hp.callA af_22 hp_11
  refine sr tb hp_20 [] 4 [(24, .slice A_1 a0.length c_2), (25, .int .i64 a1), (26, .int .i64 a2), (27, .slice A_4 a3.length c_5)] (by kernel_rfl) fun σ => ?_
  obtain ⟨r_29, hx_28, H⟩ := bindSome H
  refine s_call (.cons (tm rfl rfl) (.cons (tm rfl rfl) (.cons (tm rfl rfl) (.cons (tm rfl rfl) .nil)))) Try.call12 (selvageref16_Do.calls a0 A_1 c_2 a1 a2 a3 A_4 c_5 r_29 _ _ (Hp.offI hp_20 [] _ rfl) (RdS.now q_3 hp_20) (RdS.now q_6 hp_20) hx_28) rfl ?_
  rintro v_ w_30 ⟨I_32, A_35, c_36, X_38, rfl, q_37, z_33, af_34⟩
  have hp_31 := Hp.callZA af_34 z_33 hp_20
  have ep_39 := Ep.callA z_33 ep0 hp_20
  have u_40 := Hp.upZ hp_20 z_33
  have q_41 := q_3.up u_40
  have q_42 := q_6.up u_40
  obtain ⟨r_45, hx_44, H⟩ := bindSome H
  refine s_call (.cons (tm rfl rfl) (.cons (tm rfl rfl) .nil)) Try.call10 (selvageref16_Same.calls r_18 A_23 c_24 r_29 A_35 c_36 r_45 _ _ (Hp.offCov hp_31 [] [X_38, X_26] rfl) (Own.pass (Own.any q_25) hp_31 (subRest [] [X_38, X_26] rfl) (i := 1) rfl) (Own.pass (Own.any q_37) hp_31 (subRest [] [X_38, X_26] rfl) (i := 0) rfl) hx_44) rfl ?_
  rintro v_ w_46 ⟨rfl, af_49⟩
  have hp_47 := Hp.callA af_49 hp_31
  refine sv (v := .bool r_45) rfl rfl rfl (e_assign (tm rfl rfl)) ?_
  refine k_nil ?_
  refine k_ret ?_
  obtain rfl := Option.some.inj H
  exact k_end rfl (.tmp rfl rfl .nil) rfl ⟨_, rfl, (Ep.frz ep_39 (hp_47.pick [] (by decide) rfl)), (hp_47.pick [] (by decide) rfl).aft⟩

end Go.Proofs.Ytcnchjlomcafeaa.W

/- QB: several texts in one. -/
import Derived.Test.YtbdbmklkgjbehaaQA
set_option linter.unusedVariables false
set_option linter.unusedSimpArgs false
set_option linter.unusedSectionVars false
set_option maxRecDepth 100000
namespace Go.Proofs.Ytbdbmklkgjbehaa
open Go Go.RowKit Go.Proofs Go.Proofs.Ytbdbmklkgjbehaa.X
open Go.Proofs.Ytbdbmklkgjbehaa.B (wr sb feq fls qf flt i2f aget aset isnan isnan_flt)
noncomputable def selvagelaw12_FoldTwice.F : FI Try.prog 6 := fi Try.f6 67 Try.call6 Try.func6
def selvagelaw12_FoldTwice.m (a_1 : List api_Ins) (a_2 : List api_Loc) (a_3 : List Int) : Option (Bool) :=
 (selvagelaw12_awake.m).bind fun r_4 => if r_4 = true then ((if (a_1.length : Int) > 410 then (some (true : Bool)) else (if (a_2.length : Int) > 16 then (some (true : Bool)) else (some ((decide ((a_3.length : Int) > 400)) : Bool))) : Option Bool).bind fun o_7 => if o_7 = true then (some true) else ((fold_Fold.m a_1 a_2).bind fun r_13 => match r_13 with | Sum.inl r_15 => ((fold_Fold.m r_15 a_2).bind fun r_17 => match r_17 with | Sum.inl r_19 => (if (r_19.length : Int) ≤ (r_15.length : Int) then ((tree_Run.m r_15 a_2 a_3).bind fun r_22 => match r_22 with | Sum.inl r_24 => ((tree_Run.m r_19 a_2 a_3).bind fun r_26 => match r_26 with | Sum.inl r_28 => ((selvageref08_SameTrace_3.m r_24.2 r_28.2 r_24.1 r_28.1).bind fun r_30 => some r_30) | Sum.inr (r_29) => ((selvageref08_SameTrace_4.m r_24.2 0 r_24.1).bind fun r_32 => some r_32)) | Sum.inr (r_25) => ((tree_Run.m r_19 a_2 a_3).bind fun r_34 => match r_34 with | Sum.inl r_36 => ((selvageref08_SameTrace_5.m 0 r_36.2 r_36.1).bind fun r_38 => some r_38) | Sum.inr (r_37) => ((selvageref08_SameTrace_6.m 0 0).bind fun r_40 => some r_40))) else (some false)) | Sum.inr (r_20) => (some false)) | Sum.inr (r_16) => ((fold_Fold.m ([] : List api_Ins) a_2).bind fun r_42 => match r_42 with | Sum.inl r_44 => (if (([] : List api_Ins).length : Int) = 0 then (some false) else (some false)) | Sum.inr (r_45) => (if (([] : List api_Ins).length : Int) = 0 then (some true) else (some false))))) else (some false)
noncomputable def selvagelaw12_FoldTwice.o (a_1 : List api_Ins) (a_2 : List api_Loc) (a_3 : List Int) (r : Bool) : Out := .ret (.v (.bool r)) [] []
theorem selvagelaw12_FoldTwice.ev {a_1 : List api_Ins} {a_2 : List api_Loc} {a_3 : List Int} {r : Bool} (H : selvagelaw12_FoldTwice.m a_1 a_2 a_3 = some r) : Ev Try.prog 6 [.ro false 8 a_1.length (a_1.map api_Ins.c), .ro false 2 a_2.length (a_2.map api_Loc.c), .ro false 1 a_3.length (a_3.map (cI .i64))] [] [] (selvagelaw12_FoldTwice.o a_1 a_2 a_3 r) := by
 unfold selvagelaw12_FoldTwice.m at H
 obtain ⟨r_4, e_5, H⟩ := bdE H
 rcases ie H with ⟨h_6, H⟩ | ⟨h_6, H⟩
 ·obtain ⟨o_7, e_8, H⟩ := bdE H
  have j_9 : Rq selvagelaw12_FoldTwice.F 0 [1, 1, 0, 0] ⟨[(0, .ro false 8 a_1.length (a_1.map api_Ins.c)), (1, .ro false 2 a_2.length (a_2.map api_Loc.c)), (2, .ro false 1 a_3.length (a_3.map (cI .i64)))], [], []⟩ ((fun _ => .normal : Bool → Ex) o_7) ((fun o_7 => ⟨[(0, .ro false 8 a_1.length (a_1.map api_Ins.c)), (1, .ro false 2 a_2.length (a_2.map api_Loc.c)), (2, .ro false 1 a_3.length (a_3.map (cI .i64))), (25, .v (.bool o_7))], [], []⟩ : Bool → ASt) o_7) := by
   clear H
   have H := e_8
   clear e_8
   rcases ic H with ⟨h_10, H⟩ | ⟨h_10, H⟩
   ·obtain rfl := sj H
    exact fn [br h_10, pT, au, pT]
   ·rcases ic H with ⟨h_11, H⟩ | ⟨h_11, H⟩
    ·obtain rfl := sj H
     exact fn [br h_10, pF, br h_11, pT]
    ·obtain rfl := sj H
     exact fn [br h_10, pF, br h_11, pF]
  rcases ie H with ⟨h_12, H⟩ | ⟨h_12, H⟩
  ·obtain rfl := sj H
   exact selvagelaw12_FoldTwice.F.run tb mixed [ca [] (selvagelaw12_awake.ev e_5), bn h_6, sg_ 3 j_9, br h_12] rfl (by kernel_rfl)
  ·obtain ⟨r_13, e_14, H⟩ := bdE H
   rcases r_13 with r_15 | r_16
   ·obtain ⟨r_17, e_18, H⟩ := bdE H
    rcases r_17 with r_19 | r_20
    ·rcases ic H with ⟨h_21, H⟩ | ⟨h_21, H⟩
     ·obtain ⟨r_22, e_23, H⟩ := bdE H
      rcases r_22 with r_24 | r_25
      ·obtain ⟨r_26, e_27, H⟩ := bdE H
       rcases r_26 with r_28 | r_29
       ·obtain ⟨r_30, e_31, H⟩ := bdE H
        obtain rfl := sj H
        exact selvagelaw12_FoldTwice.F.run tb mixed [ca [] (selvagelaw12_awake.ev e_5), bn h_6, sg_ 3 j_9, br h_12, ca [] (fold_Fold.ev e_14), here 6, frz 0 [7] [], ca [] (fold_Fold.ev e_18), au, here 9, frz 1 [9] [], au, pT, br h_21, ca [] (tree_Run.ev e_23), ca [] (tree_Run.ev e_27), ca [4, 7] (selvageref08_SameTrace_3.ev e_31), pT] rfl (by kernel_rfl)
       ·obtain ⟨r_32, e_33, H⟩ := bdE H
        obtain rfl := sj H
        exact selvagelaw12_FoldTwice.F.run tb mixed [ca [] (selvagelaw12_awake.ev e_5), bn h_6, sg_ 3 j_9, br h_12, ca [] (fold_Fold.ev e_14), here 6, frz 0 [7] [], ca [] (fold_Fold.ev e_18), au, here 9, frz 1 [9] [], au, pT, br h_21, ca [] (tree_Run.ev e_23), ca [] (tree_Run.ev e_27), ca [4] (selvageref08_SameTrace_4.ev e_33), pT] rfl (by kernel_rfl)
      ·obtain ⟨r_34, e_35, H⟩ := bdE H
       rcases r_34 with r_36 | r_37
       ·obtain ⟨r_38, e_39, H⟩ := bdE H
        obtain rfl := sj H
        exact selvagelaw12_FoldTwice.F.run tb mixed [ca [] (selvagelaw12_awake.ev e_5), bn h_6, sg_ 3 j_9, br h_12, ca [] (fold_Fold.ev e_14), here 6, frz 0 [7] [], ca [] (fold_Fold.ev e_18), au, here 9, frz 1 [9] [], au, pT, br h_21, ca [] (tree_Run.ev e_23), ca [] (tree_Run.ev e_35), ca [4] (selvageref08_SameTrace_5.ev e_39), pT] rfl (by kernel_rfl)
       ·obtain ⟨r_40, e_41, H⟩ := bdE H
        obtain rfl := sj H
        exact selvagelaw12_FoldTwice.F.run tb mixed [ca [] (selvagelaw12_awake.ev e_5), bn h_6, sg_ 3 j_9, br h_12, ca [] (fold_Fold.ev e_14), here 6, frz 0 [7] [], ca [] (fold_Fold.ev e_18), au, here 9, frz 1 [9] [], au, pT, br h_21, ca [] (tree_Run.ev e_23), ca [] (tree_Run.ev e_35), ca [] (selvageref08_SameTrace_6.ev e_41), pT] rfl (by kernel_rfl)
     ·obtain rfl := sj H
      exact selvagelaw12_FoldTwice.F.run tb mixed [ca [] (selvagelaw12_awake.ev e_5), bn h_6, sg_ 3 j_9, br h_12, ca [] (fold_Fold.ev e_14), here 6, frz 0 [7] [], ca [] (fold_Fold.ev e_18), au, here 9, frz 1 [9] [], au, pT, br h_21, pF] rfl (by kernel_rfl)
    ·obtain rfl := sj H
     exact selvagelaw12_FoldTwice.F.run tb mixed [ca [] (selvagelaw12_awake.ev e_5), bn h_6, sg_ 3 j_9, br h_12, ca [] (fold_Fold.ev e_14), here 6, frz 0 [7] [], ca [] (fold_Fold.ev e_18), au, au, pF, au, pF] rfl (by kernel_rfl)
   ·obtain ⟨r_42, e_43, H⟩ := bdE H
    rcases r_42 with r_44 | r_45
    ·rcases ic H with ⟨h_46, H⟩ | ⟨h_46, H⟩
     ·obtain rfl := sj H
      exact selvagelaw12_FoldTwice.F.run tb mixed [ca [] (selvagelaw12_awake.ev e_5), bn h_6, sg_ 3 j_9, br h_12, ca [] (fold_Fold.ev e_14), on_ 7 (nzm 8), ca [] (fold_Fold.ev e_43), au, br h_46, pT] rfl (by kernel_rfl)
     ·obtain rfl := sj H
      exact selvagelaw12_FoldTwice.F.run tb mixed [ca [] (selvagelaw12_awake.ev e_5), bn h_6, sg_ 3 j_9, br h_12, ca [] (fold_Fold.ev e_14), on_ 7 (nzm 8), ca [] (fold_Fold.ev e_43), au, br h_46, pF] rfl (by kernel_rfl)
    ·rcases ic H with ⟨h_47, H⟩ | ⟨h_47, H⟩
     ·obtain rfl := sj H
      exact selvagelaw12_FoldTwice.F.run tb mixed [ca [] (selvagelaw12_awake.ev e_5), bn h_6, sg_ 3 j_9, br h_12, ca [] (fold_Fold.ev e_14), on_ 7 (nzm 8), ca [] (fold_Fold.ev e_43), au, br h_47, pT] rfl (by kernel_rfl)
     ·obtain rfl := sj H
      exact selvagelaw12_FoldTwice.F.run tb mixed [ca [] (selvagelaw12_awake.ev e_5), bn h_6, sg_ 3 j_9, br h_12, ca [] (fold_Fold.ev e_14), on_ 7 (nzm 8), ca [] (fold_Fold.ev e_43), au, br h_47, pF] rfl (by kernel_rfl)
 ·obtain rfl := sj H
  exact selvagelaw12_FoldTwice.F.run tb mixed [ca [] (selvagelaw12_awake.ev e_5), bn h_6] rfl (by kernel_rfl)
end Go.Proofs.Ytbdbmklkgjbehaa

/- QB: several texts in one. -/
import Derived.Test.YtbdbmklkgjbehaaQA
set_option linter.unusedVariables false
set_option linter.unusedSimpArgs false
set_option linter.unusedSectionVars false
set_option maxRecDepth 100000
namespace Go.Proofs.Ytbdbmklkgjbehaa
open Go Go.RowKit Go.Proofs Go.Proofs.Ytbdbmklkgjbehaa.X
open Go.Proofs.Ytbdbmklkgjbehaa.B (wr sb feq fls qf flt i2f aget aset isnan isnan_flt)
noncomputable def selvagelaw12_used.F : FI Try.prog 15 := fi Try.f15 44 Try.call15 Try.func15
def selvagelaw12_used.l1 (a_1 : List api_Ins) (a_2 : Int) (s_5 : Int) : Option (Int ⊕ (Unit ⊕ Unit)) :=
 if s_5 < (a_1.length : Int) then ((if 0 ≤ s_5 ∧ s_5 < (a_1.length : Int) then (letC (gi a_1 s_5) fun v_16 => (selvageref10_Has.m v_16.Op 97).bind fun r_17 => if r_17 = true then (letC (gi a_1 s_5) fun v_20 => if v_20.A = a_2 then (some (true : Bool)) else (letC (gi a_1 s_5) fun v_22 => (selvageref10_Has.m v_22.Op 98).bind fun r_23 => if r_23 = true then (letC (gi a_1 s_5) fun v_26 => some ((decide (v_26.B = a_2)) : Bool)) else (some (false : Bool)))) else (letC (gi a_1 s_5) fun v_27 => (selvageref10_Has.m v_27.Op 98).bind fun r_28 => if r_28 = true then (letC (gi a_1 s_5) fun v_31 => some ((decide (v_31.B = a_2)) : Bool)) else (some (false : Bool)))) else none : Option Bool).bind fun o_12 => if o_12 = true then (some (Sum.inr (Sum.inl ()))) else (some (Sum.inl (wr .i64 (s_5 + 1))))) else (some (Sum.inr (Sum.inr (()))))
def selvagelaw12_used.m (a_1 : List api_Ins) (a_2 : Int) : Option (Bool) :=
 (B.loop (selvagelaw12_used.l1 a_1 a_2) (0 : Int)).bind fun o_6 => match o_6 with | Sum.inl s_9 => (some true) | Sum.inr (s_10) => (some false)
noncomputable def selvagelaw12_used.o (a_1 : List api_Ins) (a_2 : Int) (r : Bool) : Out := .ret (.v (.bool r)) [] []
theorem selvagelaw12_used.ev {a_1 : List api_Ins} {a_2 : Int} {r : Bool} (H : selvagelaw12_used.m a_1 a_2 = some r) : Ev Try.prog 15 [.ro false 8 a_1.length (a_1.map api_Ins.c), vi a_2] [] [] (selvagelaw12_used.o a_1 a_2 r) := by
 unfold selvagelaw12_used.m at H
 obtain ⟨o_6, e_7, H⟩ := bdE H
 have j_8 := Runs.loop (P := Try.prog) (N := selvagelaw12_used.F.N) (m0 := 0) (c := sub_ selvagelaw12_used.F.c [1, 0, 1, 0, 0]) (f := (selvagelaw12_used.l1 a_1 a_2)) (St := fun s_5 => ⟨[(0, .ro false 8 a_1.length (a_1.map api_Ins.c)), (1, vi a_2), (5, vi s_5)], [], []⟩) (xo := (fun o => match o with | Sum.inl _ => .ret | Sum.inr (_) => (.exit 0) : (Unit ⊕ Unit) → Ex)) (So := (fun o => match o with | Sum.inl s_9 => ⟨[(4, .v (.bool true))], [], []⟩ | Sum.inr (s_10) => ⟨[], [], []⟩ : (Unit ⊕ Unit) → ASt)) (by intro o; rcases o with _ | _ <;> simp) (fun s_5 z H => by
  unfold selvagelaw12_used.l1 at H
  rcases ic H with ⟨h_11, H⟩ | ⟨h_11, H⟩
  ·obtain ⟨o_12, e_13, H⟩ := bdE H
   have j_14 : Rq selvagelaw12_used.F 0 [1, 0, 1, 0, 0, 1, 0, 0, 0] ⟨[(0, .ro false 8 a_1.length (a_1.map api_Ins.c)), (1, vi a_2), (5, vi s_5)], [], []⟩ ((fun _ => .normal : Bool → Ex) o_12) ((fun o_12 => ⟨[(0, .ro false 8 a_1.length (a_1.map api_Ins.c)), (1, vi a_2), (5, vi s_5), (43, .v (.bool o_12))], [], []⟩ : Bool → ASt) o_12) := by
    clear H
    have H := e_13
    clear e_13
    obtain ⟨g_15, H⟩ := gdE H
    let v_16 : api_Ins := gi a_1 s_5
    replace H := ltD H
    obtain ⟨r_17, e_18, H⟩ := bdE H
    rcases ie H with ⟨h_19, H⟩ | ⟨h_19, H⟩
    ·let v_20 : api_Ins := gi a_1 s_5
     replace H := ltD H
     rcases ic H with ⟨h_21, H⟩ | ⟨h_21, H⟩
     ·obtain rfl := sj H
      exact fn [ix api_Ins.c g_15, ca [] (selvageref10_Has.ev e_18), br h_19, ix api_Ins.c g_15, pT, br h_21, pT]
     ·let v_22 : api_Ins := gi a_1 s_5
      replace H := ltD H
      obtain ⟨r_23, e_24, H⟩ := bdE H
      rcases ie H with ⟨h_25, H⟩ | ⟨h_25, H⟩
      ·let v_26 : api_Ins := gi a_1 s_5
       replace H := ltD H
       obtain rfl := sj H
       exact fn [ix api_Ins.c g_15, ca [] (selvageref10_Has.ev e_18), br h_19, ix api_Ins.c g_15, pT, br h_21, ix api_Ins.c g_15, ca [] (selvageref10_Has.ev e_24), br h_25, ix api_Ins.c g_15, pT, pF]
      ·obtain rfl := sj H
       exact fn [ix api_Ins.c g_15, ca [] (selvageref10_Has.ev e_18), br h_19, ix api_Ins.c g_15, pT, br h_21, ix api_Ins.c g_15, ca [] (selvageref10_Has.ev e_24), br h_25, pF, pF]
    ·let v_27 : api_Ins := gi a_1 s_5
     replace H := ltD H
     obtain ⟨r_28, e_29, H⟩ := bdE H
     rcases ie H with ⟨h_30, H⟩ | ⟨h_30, H⟩
     ·let v_31 : api_Ins := gi a_1 s_5
      replace H := ltD H
      obtain rfl := sj H
      exact fn [ix api_Ins.c g_15, ca [] (selvageref10_Has.ev e_18), br h_19, pF, au, ix api_Ins.c g_15, ca [] (selvageref10_Has.ev e_29), br h_30, ix api_Ins.c g_15, pT, pF]
     ·obtain rfl := sj H
      exact fn [ix api_Ins.c g_15, ca [] (selvageref10_Has.ev e_18), br h_19, pF, au, ix api_Ins.c g_15, ca [] (selvageref10_Has.ev e_29), br h_30, pF, pF]
   rcases ie H with ⟨h_32, H⟩ | ⟨h_32, H⟩
   ·obtain rfl := sj H
    exact fn [br h_11, sg_ 4 j_14, br h_32]
   ·obtain rfl := sj H
    exact fn [br h_11, sg_ 4 j_14, br h_32]
  ·obtain rfl := sj H
   exact fn [br h_11] (by kernel_rfl)) e_7
 rcases o_6 with s_9 | s_10
 ·obtain rfl := sj H
  exact selvagelaw12_used.F.run tb mixed [su j_8] rfl (by kernel_rfl)
 ·obtain rfl := sj H
  exact selvagelaw12_used.F.run tb mixed [su j_8] rfl (by kernel_rfl)
noncomputable def selvagelaw12_FoldLeast.F : FI Try.prog 5 := fi Try.f5 110 Try.call5 Try.func5
def selvagelaw12_FoldLeast.l1 (r_13 : List api_Ins) (s_17 : Int) : Option (Int ⊕ (Unit ⊕ Unit)) :=
 if s_17 < (r_13.length : Int) then (if 0 ≤ s_17 ∧ s_17 < (r_13.length : Int) then (letC (gi r_13 s_17) fun v_25 => (selvagelaw12_known.m r_13 v_25.A).bind fun r_26 => (selvagelaw12_known.m r_13 v_25.B).bind fun r_28 => (if v_25.Op = 2 then (some (true : Bool)) else (if v_25.Op = 3 then (some (true : Bool)) else (some ((decide (v_25.Op = 4)) : Bool))) : Option Bool).bind fun o_30 => if o_30 = true then ((if r_26.2 = true then (if r_28.2 = true then (some (true : Bool)) else ((selvagelaw12_used.m r_13 v_25.D).bind fun r_41 => some ((!r_41) : Bool))) else ((selvagelaw12_used.m r_13 v_25.D).bind fun r_43 => some ((!r_43) : Bool)) : Option Bool).bind fun o_36 => if o_36 = true then (some (Sum.inr (Sum.inl ()))) else (some (Sum.inl (wr .i64 (s_17 + 1))))) else (if v_25.Op = 1 then ((selvagelaw12_used.m r_13 v_25.D).bind fun r_47 => if r_47 = true then (some (Sum.inl (wr .i64 (s_17 + 1)))) else (some (Sum.inr (Sum.inl ())))) else (if v_25.Op = 5 then ((if r_28.2 = true then (if r_28.1 = 0 then (some (false : Bool)) else (if r_26.2 = true then (some (true : Bool)) else ((selvagelaw12_used.m r_13 v_25.D).bind fun r_57 => some ((!r_57) : Bool)))) else (some (false : Bool)) : Option Bool).bind fun o_51 => if o_51 = true then (some (Sum.inr (Sum.inl ()))) else (some (Sum.inl (wr .i64 (s_17 + 1))))) else ((if v_25.Op = 16 then (some (true : Bool)) else (some ((decide (v_25.Op = 17)) : Bool)) : Option Bool).bind fun o_60 => if o_60 = true then ((if r_26.2 = true then (if r_28.2 = true then (some (true : Bool)) else (some ((decide (v_25.A = v_25.B)) : Bool))) else (some ((decide (v_25.A = v_25.B)) : Bool)) : Option Bool).bind fun o_65 => if o_65 = true then (some (Sum.inr (Sum.inl ()))) else (some (Sum.inl (wr .i64 (s_17 + 1))))) else (some (Sum.inl (wr .i64 (s_17 + 1)))))))) else none) else (some (Sum.inr (Sum.inr (()))))
def selvagelaw12_FoldLeast.m (a_1 : List api_Ins) (a_2 : List api_Loc) : Option (Bool) :=
 (selvagelaw12_awake.m).bind fun r_3 => if r_3 = true then ((if (a_1.length : Int) > 410 then (some (true : Bool)) else (some ((decide ((a_2.length : Int) > 16)) : Bool)) : Option Bool).bind fun o_6 => if o_6 = true then (some true) else ((fold_Fold.m a_1 a_2).bind fun r_11 => match r_11 with | Sum.inl r_13 => ((B.loop (selvagelaw12_FoldLeast.l1 r_13) (0 : Int)).bind fun o_18 => match o_18 with | Sum.inl s_21 => (some false) | Sum.inr (s_22) => (some true)) | Sum.inr (r_14) => (some true))) else (some false)
noncomputable def selvagelaw12_FoldLeast.o (a_1 : List api_Ins) (a_2 : List api_Loc) (r : Bool) : Out := .ret (.v (.bool r)) [] []
theorem selvagelaw12_FoldLeast.ev {a_1 : List api_Ins} {a_2 : List api_Loc} {r : Bool} (H : selvagelaw12_FoldLeast.m a_1 a_2 = some r) : Ev Try.prog 5 [.ro false 8 a_1.length (a_1.map api_Ins.c), .ro false 2 a_2.length (a_2.map api_Loc.c)] [] [] (selvagelaw12_FoldLeast.o a_1 a_2 r) := by
 unfold selvagelaw12_FoldLeast.m at H
 obtain ⟨r_3, e_4, H⟩ := bdE H
 rcases ie H with ⟨h_5, H⟩ | ⟨h_5, H⟩
 ·obtain ⟨o_6, e_7, H⟩ := bdE H
  have j_8 : Rq selvagelaw12_FoldLeast.F 0 [1, 1, 0, 0] ⟨[(0, .ro false 8 a_1.length (a_1.map api_Ins.c)), (1, .ro false 2 a_2.length (a_2.map api_Loc.c))], [], []⟩ ((fun _ => .normal : Bool → Ex) o_6) ((fun o_6 => ⟨[(0, .ro false 8 a_1.length (a_1.map api_Ins.c)), (1, .ro false 2 a_2.length (a_2.map api_Loc.c)), (22, .v (.bool o_6))], [], []⟩ : Bool → ASt) o_6) := by
   clear H
   have H := e_7
   clear e_7
   rcases ic H with ⟨h_9, H⟩ | ⟨h_9, H⟩
   ·obtain rfl := sj H
    exact fn [br h_9, pT]
   ·obtain rfl := sj H
    exact fn [br h_9, pF]
  rcases ie H with ⟨h_10, H⟩ | ⟨h_10, H⟩
  ·obtain rfl := sj H
   exact selvagelaw12_FoldLeast.F.run tb mixed [ca [] (selvagelaw12_awake.ev e_4), bn h_5, sg_ 3 j_8, br h_10] rfl (by kernel_rfl)
  ·obtain ⟨r_11, e_12, H⟩ := bdE H
   rcases r_11 with r_13 | r_14
   ·obtain ⟨o_18, e_19, H⟩ := bdE H
    have j_20 := Runs.loop (P := Try.prog) (N := selvagelaw12_FoldLeast.F.N) (m0 := 0) (c := sub_ selvagelaw12_FoldLeast.F.c [1, 1, 1, 1, 1, 0, 1, 0, 0]) (f := (selvagelaw12_FoldLeast.l1 r_13)) (St := fun s_17 => ⟨[(5, .ro false 8 r_13.length (r_13.map api_Ins.c)), (7, vi s_17)], [], []⟩) (xo := (fun o => match o with | Sum.inl _ => .ret | Sum.inr (_) => (.exit 0) : (Unit ⊕ Unit) → Ex)) (So := (fun o => match o with | Sum.inl s_21 => ⟨[(4, .v (.bool false))], [], []⟩ | Sum.inr (s_22) => ⟨[], [], []⟩ : (Unit ⊕ Unit) → ASt)) (by intro o; rcases o with _ | _ <;> simp) (fun s_17 z H => by
     unfold selvagelaw12_FoldLeast.l1 at H
     rcases ic H with ⟨h_23, H⟩ | ⟨h_23, H⟩
     ·obtain ⟨g_24, H⟩ := gdE H
      let v_25 : api_Ins := gi r_13 s_17
      replace H := ltD H
      obtain ⟨r_26, e_27, H⟩ := bdE H
      obtain ⟨r_28, e_29, H⟩ := bdE H
      obtain ⟨o_30, e_31, H⟩ := bdE H
      have j_32 : Rq selvagelaw12_FoldLeast.F 0 [1, 1, 1, 1, 1, 0, 1, 0, 0, 1, 0, 0, 1, 1, 1, 1, 0, 0, 1] ⟨[(5, .ro false 8 r_13.length (r_13.map api_Ins.c)), (7, vi s_17), (8, .ref 0 0), (10, .v (.bool r_26.2)), (11, vi r_28.1), (12, .v (.bool r_28.2)), (56, vi v_25.Op), (57, .v (.bool (decide (v_25.Op = 2))))], [.box (api_Ins.c v_25)], []⟩ ((fun _ => .normal : Bool → Ex) o_30) ((fun o_30 => ⟨[(5, .ro false 8 r_13.length (r_13.map api_Ins.c)), (7, vi s_17), (8, .ref 0 0), (10, .v (.bool r_26.2)), (11, vi r_28.1), (12, .v (.bool r_28.2)), (56, vi v_25.Op), (57, .v (.bool o_30))], [.box (api_Ins.c v_25)], []⟩ : Bool → ASt) o_30) := by
       clear H
       have H := e_31
       clear e_31
       rcases ic H with ⟨h_33, H⟩ | ⟨h_33, H⟩
       ·obtain rfl := sj H
        exact fn [br h_33]
       ·rcases ic H with ⟨h_34, H⟩ | ⟨h_34, H⟩
        ·obtain rfl := sj H
         exact fn [br h_33, br h_34]
        ·obtain rfl := sj H
         exact fn [br h_33, br h_34]
      rcases ie H with ⟨h_35, H⟩ | ⟨h_35, H⟩
      ·obtain ⟨o_36, e_37, H⟩ := bdE H
       have j_38 : Rq selvagelaw12_FoldLeast.F 0 [1, 1, 1, 1, 1, 0, 1, 0, 0, 1, 0, 0, 1, 1, 1, 1, 0, 1, 0, 0] ⟨[(5, .ro false 8 r_13.length (r_13.map api_Ins.c)), (7, vi s_17), (8, .ref 0 0), (10, .v (.bool r_26.2)), (12, .v (.bool r_28.2))], [.box (api_Ins.c v_25)], []⟩ ((fun _ => .normal : Bool → Ex) o_36) ((fun o_36 => ⟨[(5, .ro false 8 r_13.length (r_13.map api_Ins.c)), (7, vi s_17), (71, .v (.bool o_36))], [], []⟩ : Bool → ASt) o_36) := by
        clear H
        have H := e_37
        clear e_37
        rcases ie H with ⟨h_39, H⟩ | ⟨h_39, H⟩
        ·rcases ie H with ⟨h_40, H⟩ | ⟨h_40, H⟩
         ·obtain rfl := sj H
          exact fn [br h_39, pT, br h_40, pT]
         ·obtain ⟨r_41, e_42, H⟩ := bdE H
          obtain rfl := sj H
          exact fn [br h_39, pT, br h_40, ca [] (selvagelaw12_used.ev e_42), pF]
        ·obtain ⟨r_43, e_44, H⟩ := bdE H
         obtain rfl := sj H
         exact fn [br h_39, pF, au, ca [] (selvagelaw12_used.ev e_44), pF]
       rcases ie H with ⟨h_45, H⟩ | ⟨h_45, H⟩
       ·obtain rfl := sj H
        exact fn [br h_23, ix api_Ins.c g_24, ca [] (selvagelaw12_known.ev e_27), ca [] (selvagelaw12_known.ev e_29), sc_ j_32, br h_35, sg_ 18 j_38, br h_45]
       ·obtain rfl := sj H
        exact fn [br h_23, ix api_Ins.c g_24, ca [] (selvagelaw12_known.ev e_27), ca [] (selvagelaw12_known.ev e_29), sc_ j_32, br h_35, sg_ 18 j_38, br h_45]
      ·rcases ic H with ⟨h_46, H⟩ | ⟨h_46, H⟩
       ·obtain ⟨r_47, e_48, H⟩ := bdE H
        rcases ie H with ⟨h_49, H⟩ | ⟨h_49, H⟩
        ·obtain rfl := sj H
         exact fn [br h_23, ix api_Ins.c g_24, ca [] (selvagelaw12_known.ev e_27), ca [] (selvagelaw12_known.ev e_29), sc_ j_32, br h_35, br h_46, ca [] (selvagelaw12_used.ev e_48), bn h_49]
        ·obtain rfl := sj H
         exact fn [br h_23, ix api_Ins.c g_24, ca [] (selvagelaw12_known.ev e_27), ca [] (selvagelaw12_known.ev e_29), sc_ j_32, br h_35, br h_46, ca [] (selvagelaw12_used.ev e_48), bn h_49]
       ·rcases ic H with ⟨h_50, H⟩ | ⟨h_50, H⟩
        ·obtain ⟨o_51, e_52, H⟩ := bdE H
         have j_53 : Rq selvagelaw12_FoldLeast.F 0 [1, 1, 1, 1, 1, 0, 1, 0, 0, 1, 0, 0, 1, 1, 1, 1, 0, 1, 1, 1, 1, 1, 0, 0] ⟨[(5, .ro false 8 r_13.length (r_13.map api_Ins.c)), (7, vi s_17), (8, .ref 0 0), (10, .v (.bool r_26.2)), (11, vi r_28.1), (12, .v (.bool r_28.2))], [.box (api_Ins.c v_25)], []⟩ ((fun _ => .normal : Bool → Ex) o_51) ((fun o_51 => ⟨[(5, .ro false 8 r_13.length (r_13.map api_Ins.c)), (7, vi s_17), (95, .v (.bool o_51))], [], []⟩ : Bool → ASt) o_51) := by
          clear H
          have H := e_52
          clear e_52
          rcases ie H with ⟨h_54, H⟩ | ⟨h_54, H⟩
          ·rcases ic H with ⟨h_55, H⟩ | ⟨h_55, H⟩
           ·obtain rfl := sj H
            exact fn [br h_54, pT, bn h_55, pF]
           ·rcases ie H with ⟨h_56, H⟩ | ⟨h_56, H⟩
            ·obtain rfl := sj H
             exact fn [br h_54, pT, bn h_55, br h_56, pT, pT]
            ·obtain ⟨r_57, e_58, H⟩ := bdE H
             obtain rfl := sj H
             exact fn [br h_54, pT, bn h_55, br h_56, ca [] (selvagelaw12_used.ev e_58), pF, pT]
          ·obtain rfl := sj H
           exact fn [br h_54, pF, au, pF]
         rcases ie H with ⟨h_59, H⟩ | ⟨h_59, H⟩
         ·obtain rfl := sj H
          exact fn [br h_23, ix api_Ins.c g_24, ca [] (selvagelaw12_known.ev e_27), ca [] (selvagelaw12_known.ev e_29), sc_ j_32, br h_35, br h_46, br h_50, sg_ 24 j_53, br h_59]
         ·obtain rfl := sj H
          exact fn [br h_23, ix api_Ins.c g_24, ca [] (selvagelaw12_known.ev e_27), ca [] (selvagelaw12_known.ev e_29), sc_ j_32, br h_35, br h_46, br h_50, sg_ 24 j_53, br h_59]
        ·obtain ⟨o_60, e_61, H⟩ := bdE H
         have j_62 : Rq selvagelaw12_FoldLeast.F 0 [1, 1, 1, 1, 1, 0, 1, 0, 0, 1, 0, 0, 1, 1, 1, 1, 0, 1, 1, 1, 1, 1, 1, 0, 1] ⟨[(5, .ro false 8 r_13.length (r_13.map api_Ins.c)), (7, vi s_17), (8, .ref 0 0), (10, .v (.bool r_26.2)), (12, .v (.bool r_28.2)), (56, vi v_25.Op), (96, .v (.bool (decide (v_25.Op = 16))))], [.box (api_Ins.c v_25)], []⟩ ((fun _ => .normal : Bool → Ex) o_60) ((fun o_60 => ⟨[(5, .ro false 8 r_13.length (r_13.map api_Ins.c)), (7, vi s_17), (8, .ref 0 0), (10, .v (.bool r_26.2)), (12, .v (.bool r_28.2)), (96, .v (.bool o_60))], [.box (api_Ins.c v_25)], []⟩ : Bool → ASt) o_60) := by
          clear H
          have H := e_61
          clear e_61
          rcases ic H with ⟨h_63, H⟩ | ⟨h_63, H⟩
          ·obtain rfl := sj H
           exact fn [br h_63]
          ·obtain rfl := sj H
           exact fn [br h_63]
         rcases ie H with ⟨h_64, H⟩ | ⟨h_64, H⟩
         ·obtain ⟨o_65, e_66, H⟩ := bdE H
          have j_67 : Rq selvagelaw12_FoldLeast.F 0 [1, 1, 1, 1, 1, 0, 1, 0, 0, 1, 0, 0, 1, 1, 1, 1, 0, 1, 1, 1, 1, 1, 1, 1, 0, 0] ⟨[(5, .ro false 8 r_13.length (r_13.map api_Ins.c)), (7, vi s_17), (8, .ref 0 0), (10, .v (.bool r_26.2)), (12, .v (.bool r_28.2))], [.box (api_Ins.c v_25)], []⟩ ((fun _ => .normal : Bool → Ex) o_65) ((fun o_65 => ⟨[(5, .ro false 8 r_13.length (r_13.map api_Ins.c)), (7, vi s_17), (109, .v (.bool o_65))], [], []⟩ : Bool → ASt) o_65) := by
           clear H
           have H := e_66
           clear e_66
           rcases ie H with ⟨h_68, H⟩ | ⟨h_68, H⟩
           ·rcases ie H with ⟨h_69, H⟩ | ⟨h_69, H⟩
            ·obtain rfl := sj H
             exact fn [br h_68, pT, br h_69, pT]
            ·obtain rfl := sj H
             exact fn [br h_68, pT, br h_69, pF]
           ·obtain rfl := sj H
            exact fn [br h_68, pF, au, pF]
          rcases ie H with ⟨h_70, H⟩ | ⟨h_70, H⟩
          ·obtain rfl := sj H
           exact fn [br h_23, ix api_Ins.c g_24, ca [] (selvagelaw12_known.ev e_27), ca [] (selvagelaw12_known.ev e_29), sc_ j_32, br h_35, br h_46, br h_50, sc_ j_62, br h_64, sg_ 28 j_67, br h_70]
          ·obtain rfl := sj H
           exact fn [br h_23, ix api_Ins.c g_24, ca [] (selvagelaw12_known.ev e_27), ca [] (selvagelaw12_known.ev e_29), sc_ j_32, br h_35, br h_46, br h_50, sc_ j_62, br h_64, sg_ 28 j_67, br h_70]
         ·obtain rfl := sj H
          exact fn [br h_23, ix api_Ins.c g_24, ca [] (selvagelaw12_known.ev e_27), ca [] (selvagelaw12_known.ev e_29), sc_ j_32, br h_35, br h_46, br h_50, sc_ j_62, br h_64]
     ·obtain rfl := sj H
      exact fn [br h_23] (by kernel_rfl)) e_19
    rcases o_18 with s_21 | s_22
    ·obtain rfl := sj H
     exact selvagelaw12_FoldLeast.F.run tb mixed [ca [] (selvagelaw12_awake.ev e_4), bn h_5, sg_ 3 j_8, br h_10, ca [] (fold_Fold.ev e_12), au, su j_20, frz 0 [5] []] rfl (by kernel_rfl)
    ·obtain rfl := sj H
     exact selvagelaw12_FoldLeast.F.run tb mixed [ca [] (selvagelaw12_awake.ev e_4), bn h_5, sg_ 3 j_8, br h_10, ca [] (fold_Fold.ev e_12), au, su j_20, frz 0 [5] []] rfl (by kernel_rfl)
   ·obtain rfl := sj H
    exact selvagelaw12_FoldLeast.F.run tb mixed [ca [] (selvagelaw12_awake.ev e_4), bn h_5, sg_ 3 j_8, br h_10, ca [] (fold_Fold.ev e_12), au] rfl (by kernel_rfl)
 ·obtain rfl := sj H
  exact selvagelaw12_FoldLeast.F.run tb mixed [ca [] (selvagelaw12_awake.ev e_4), bn h_5] rfl (by kernel_rfl)
end Go.Proofs.Ytbdbmklkgjbehaa

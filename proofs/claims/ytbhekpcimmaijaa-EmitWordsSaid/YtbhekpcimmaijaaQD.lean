/- QD: several texts in one. -/
import Derived.Test.YtbhekpcimmaijaaQA
import Derived.Test.YtbhekpcimmaijaaQC
import Derived.Test.YtbhekpcimmaijaaQB
set_option linter.unusedVariables false
set_option linter.unusedSimpArgs false
set_option linter.unusedSectionVars false
set_option maxRecDepth 100000
namespace Go.Proofs.Ytbhekpcimmaijaa
open Go Go.RowKit Go.Proofs Go.Proofs.Ytbhekpcimmaijaa.X
open Go.Proofs.Ytbhekpcimmaijaa.B (wr sb feq fls qf flt i2f aget aset isnan isnan_flt)
noncomputable def selvagelaw17_EmitWords.F : FI Try.prog 3 := ⟨Try.f3, 81, (Try.f3.body.getD .skip), Try.f3.results.toList, Try.call3, Try.func3, by kernel_rfl, by kernel_rfl, by kernel_rfl⟩
def selvagelaw17_EmitWords.l1 (r_18 : List api_Inst) (s_34 : Int) : Option (Int ⊕ (Unit ⊕ Unit)) :=
 if s_34 < (r_18.length : Int) then (if 0 ≤ s_34 ∧ s_34 < (r_18.length : Int) then (letC (gi r_18 s_34) fun v_42 => (isa_Encode.m v_42).bind fun r_43 => if r_43.2 = 0 then (some (Sum.inl (wr .i64 (s_34 + 1)))) else (some (Sum.inr (Sum.inl ())))) else none) else (some (Sum.inr (Sum.inr (()))))
def selvagelaw17_EmitWords.l2 (r_18 : List api_Inst) (s_53 : Int) : Option (Int ⊕ (Unit ⊕ Unit)) :=
 if s_53 < (r_18.length : Int) then (if 0 ≤ s_53 ∧ s_53 < (r_18.length : Int) then (letC (gi r_18 s_53) fun v_61 => (isa_Encode.m v_61).bind fun r_62 => if r_62.2 = 0 then (some (Sum.inl (wr .i64 (s_53 + 1)))) else (some (Sum.inr (Sum.inl ())))) else none) else (some (Sum.inr (Sum.inr (()))))
def selvagelaw17_EmitWords.l3 (s_79 : Unit) : Option (Unit ⊕ Unit) :=
 some (Sum.inr ())
def selvagelaw17_EmitWords.l4 (s_93 : Unit) : Option (Unit ⊕ Unit) :=
 some (Sum.inr ())
def selvagelaw17_EmitWords.l5 (r_20 : (List api_Inst) × Nat) (s_112 : Int) : Option (Int ⊕ (Unit ⊕ Unit)) :=
 if s_112 < (r_20.2 : Int) then (if 0 ≤ s_112 ∧ s_112 < (r_20.2 : Int) then (if 0 ≤ s_112 ∧ s_112 < (r_20.1.length : Int) then (letC (gi r_20.1 s_112) fun v_121 => (isa_Encode.m v_121).bind fun r_122 => if r_122.2 = 0 then (letC (wr .i64 (s_112 + 1)) fun v_125 => some (Sum.inl v_125)) else (some (Sum.inr (Sum.inl ())))) else none) else none) else (some (Sum.inr (Sum.inr (()))))
def selvagelaw17_EmitWords.l6 (r_20 : (List api_Inst) × Nat) (s_133 : Int) : Option (Int ⊕ (Unit ⊕ Unit)) :=
 if s_133 < (r_20.2 : Int) then (if 0 ≤ s_133 ∧ s_133 < (r_20.2 : Int) then (if 0 ≤ s_133 ∧ s_133 < (r_20.1.length : Int) then (letC (gi r_20.1 s_133) fun v_142 => (isa_Encode.m v_142).bind fun r_143 => if r_143.2 = 0 then (letC (wr .i64 (s_133 + 1)) fun v_146 => some (Sum.inl v_146)) else (some (Sum.inr (Sum.inl ())))) else none) else none) else (some (Sum.inr (Sum.inr (()))))
def selvagelaw17_EmitWords.m (a_1 : List api_Ins) (a_2 : List api_Loc) (a_3 : Int) : Option (Bool) :=
 (selvagelaw17_awake.m).bind fun r_4 => if r_4 = true then ((letC (selvagelaw17_small.m a_1 a_2 ([] : List Int)) fun r_10 => if r_10 = true then (some ((decide ((a_1.length : Int) > 150)) : Bool)) else (some (true : Bool)) : Option Bool).bind fun o_7 => if o_7 = true then (some true) else ((selvageref10_Copy.m a_1).bind fun r_14 => (emit_Emit_2.m r_14 a_2 a_3).bind fun r_16 => match r_16 with | Sum.inl r_18 => ((selvageref14_Homes.m a_1 a_2 a_3).bind fun r_21 => match r_21 with | Sum.inl r_23 => ((if (0 : Int) = r_23 then ((selvageref10_Same.m r_14 a_1).bind fun r_29 => some ((!r_29) : Bool)) else (some (true : Bool)) : Option Bool).bind fun o_25 => if o_25 = true then (some false) else ((B.loop (selvagelaw17_EmitWords.l1 r_18) (0 : Int)).bind fun o_35 => match o_35 with | Sum.inl s_38 => (some false) | Sum.inr (s_39) => (if (true == (decide ((r_18.length : Int) > 0))) = true then (letC (wr .i64 ((20 : Int) * (a_1.length : Int))) fun v_47 => some (decide ((r_18.length : Int) ≤ v_47))) else (some false)))) | Sum.inr (r_24) => ((selvageref10_Same.m r_14 a_1).bind fun r_48 => if r_48 = true then ((B.loop (selvagelaw17_EmitWords.l2 r_18) (0 : Int)).bind fun o_54 => match o_54 with | Sum.inl s_57 => (some false) | Sum.inr (s_58) => (if (true == (decide ((r_18.length : Int) > 0))) = true then (letC (wr .i64 ((20 : Int) * (a_1.length : Int))) fun v_66 => some (decide ((r_18.length : Int) ≤ v_66))) else (some false))) else (some false))) | Sum.inr (Sum.inl r_19) => ((selvageref14_Homes.m a_1 a_2 a_3).bind fun r_67 => match r_67 with | Sum.inl r_69 => ((if r_19 = r_69 then ((selvageref10_Same.m r_14 a_1).bind fun r_75 => some ((!r_75) : Bool)) else (some (true : Bool)) : Option Bool).bind fun o_71 => if o_71 = true then (some false) else ((B.loop selvagelaw17_EmitWords.l3 (() : Unit)).bind fun o_80 => if ((decide (r_19 = 0)) == false) = true then (letC (wr .i64 ((20 : Int) * (a_1.length : Int))) fun v_84 => some (decide ((0 : Int) ≤ v_84))) else (some false))) | Sum.inr (r_70) => ((if r_19 = 0 then ((selvageref10_Same.m r_14 a_1).bind fun r_89 => some ((!r_89) : Bool)) else (some (true : Bool)) : Option Bool).bind fun o_85 => if o_85 = true then (some false) else ((B.loop selvagelaw17_EmitWords.l4 (() : Unit)).bind fun o_94 => if ((decide (r_19 = 0)) == false) = true then (letC (wr .i64 ((20 : Int) * (a_1.length : Int))) fun v_98 => some (decide ((0 : Int) ≤ v_98))) else (some false)))) | Sum.inr (Sum.inr (r_20)) => ((selvageref14_Homes.m a_1 a_2 a_3).bind fun r_99 => match r_99 with | Sum.inl r_101 => ((if (0 : Int) = r_101 then ((selvageref10_Same.m r_14 a_1).bind fun r_107 => some ((!r_107) : Bool)) else (some (true : Bool)) : Option Bool).bind fun o_103 => if o_103 = true then (some false) else ((B.loop (selvagelaw17_EmitWords.l5 r_20) (0 : Int)).bind fun o_113 => match o_113 with | Sum.inl s_116 => (some false) | Sum.inr (s_117) => (if (true == (decide ((r_20.2 : Int) > 0))) = true then (letC (wr .i64 ((20 : Int) * (a_1.length : Int))) fun v_127 => some (decide ((r_20.2 : Int) ≤ v_127))) else (some false)))) | Sum.inr (r_102) => ((selvageref10_Same.m r_14 a_1).bind fun r_128 => if r_128 = true then ((B.loop (selvagelaw17_EmitWords.l6 r_20) (0 : Int)).bind fun o_134 => match o_134 with | Sum.inl s_137 => (some false) | Sum.inr (s_138) => (if (true == (decide ((r_20.2 : Int) > 0))) = true then (letC (wr .i64 ((20 : Int) * (a_1.length : Int))) fun v_148 => some (decide ((r_20.2 : Int) ≤ v_148))) else (some false))) else (some false))))) else (some false)
noncomputable def selvagelaw17_EmitWords.o (a_1 : List api_Ins) (a_2 : List api_Loc) (a_3 : Int) (r : Bool) : Out := .ret (.v (.bool r)) [] []
theorem selvagelaw17_EmitWords.ev {a_1 : List api_Ins} {a_2 : List api_Loc} {a_3 : Int} {r : Bool} (H : selvagelaw17_EmitWords.m a_1 a_2 a_3 = some r) : Ev Try.prog 3 [.ro false 8 a_1.length (a_1.map api_Ins.c), .ro false 2 a_2.length (a_2.map api_Loc.c), .v (.int .i64 a_3)] [] [] (selvagelaw17_EmitWords.o a_1 a_2 a_3 r) := by
 unfold selvagelaw17_EmitWords.m at H
 obtain ⟨r_4, e_5, H⟩ := bdE H
 rcases ie H with ⟨h_6, H⟩ | ⟨h_6, H⟩
 ·obtain ⟨o_7, e_8, H⟩ := bdE H
  have j_9 : Runs Try.prog selvagelaw17_EmitWords.F.N 0 (sub_ selvagelaw17_EmitWords.F.c [1, 1, 0, 0]) ⟨[(0, .ro false 8 a_1.length (a_1.map api_Ins.c)), (1, .ro false 2 a_2.length (a_2.map api_Loc.c)), (2, .v (.int .i64 a_3))], [], []⟩ ((fun _ => .normal : Bool → Ex) o_7) ((fun o_7 => ⟨[(0, .ro false 8 a_1.length (a_1.map api_Ins.c)), (1, .ro false 2 a_2.length (a_2.map api_Loc.c)), (2, .v (.int .i64 a_3)), (25, .v (.bool o_7))], [], []⟩ : Bool → ASt) o_7) := by
   clear H
   have H := e_8
   clear e_8
   obtain ⟨r_10, e_11, H⟩ := ltE H
   rcases ie H with ⟨h_12, H⟩ | ⟨h_12, H⟩
   ·obtain rfl := sj H
    exact fn [ca [] (Ev.nz (c := false) (k := 1) 2 (selvagelaw17_small.ev e_11) (by kernel_rfl)), bn h_12, pF] (by kernel_rfl)
   ·obtain rfl := sj H
    exact fn [ca [] (Ev.nz (c := false) (k := 1) 2 (selvagelaw17_small.ev e_11) (by kernel_rfl)), bn h_12, pT] (by kernel_rfl)
  rcases ie H with ⟨h_13, H⟩ | ⟨h_13, H⟩
  ·obtain rfl := sj H
   exact selvagelaw17_EmitWords.F.run tb mixed [ca [] (selvagelaw17_awake.ev e_5), bn h_6, sg_ 3 j_9, br h_13] rfl (by kernel_rfl)
  ·obtain ⟨r_14, e_15, H⟩ := bdE H
   obtain ⟨r_16, e_17, H⟩ := bdE H
   rcases r_16 with r_18 | r_19 | r_20
   ·obtain ⟨r_21, e_22, H⟩ := bdE H
    rcases r_21 with r_23 | r_24
    ·obtain ⟨o_25, e_26, H⟩ := bdE H
     have j_27 : Runs Try.prog selvagelaw17_EmitWords.F.N 0 (sub_ selvagelaw17_EmitWords.F.c [1, 1, 1, 1, 1, 0, 1, 0]) ⟨[(0, .ro false 8 a_1.length (a_1.map api_Ins.c)), (7, .ro false 8 r_14.length (r_14.map api_Ins.c)), (8, .sl 0 2 r_18.length 0 r_18.length), (9, .v (.int .i64 0)), (11, .v (.int .i64 r_23))], [.dead, .dead, .arr true 39 5 r_18.length (r_18.map api_Inst.c)], []⟩ ((fun _ => .normal : Bool → Ex) o_25) ((fun o_25 => ⟨[(0, .ro false 8 a_1.length (a_1.map api_Ins.c)), (8, .sl 0 2 r_18.length 0 r_18.length), (9, .v (.int .i64 0)), (50, .v (.bool o_25))], [.dead, .dead, .arr true 39 5 r_18.length (r_18.map api_Inst.c)], []⟩ : Bool → ASt) o_25) := by
      clear H
      have H := e_26
      clear e_26
      rcases ic H with ⟨h_28, H⟩ | ⟨h_28, H⟩
      ·obtain ⟨r_29, e_30, H⟩ := bdE H
       obtain rfl := sj H
       exact fn [bn h_28, ca [] (selvageref10_Same.ev e_30), pF] (by kernel_rfl)
      ·obtain rfl := sj H
       exact fn [bn h_28, pT] (by kernel_rfl)
     rcases ie H with ⟨h_31, H⟩ | ⟨h_31, H⟩
     ·obtain rfl := sj H
      exact selvagelaw17_EmitWords.F.run tb mixed [ca [] (selvagelaw17_awake.ev e_5), bn h_6, sg_ 3 j_9, br h_13, ca [] (selvageref10_Copy.ev e_15), here 6, frz 0 [7] [], ca [] (emit_Emit_2.ev e_17), ca [] (selvageref14_Homes.ev e_22), sg_ 8 j_27, br h_31] rfl (by kernel_rfl)
     ·obtain ⟨o_35, e_36, H⟩ := bdE H
      have j_37 := Runs.loop (P := Try.prog) (N := selvagelaw17_EmitWords.F.N) (m0 := 0) (c := sub_ selvagelaw17_EmitWords.F.c [1, 1, 1, 1, 1, 1, 0, 1, 0, 0]) (f := (selvagelaw17_EmitWords.l1 r_18)) (St := fun s_34 => ⟨[(0, .ro false 8 a_1.length (a_1.map api_Ins.c)), (8, .sl 0 2 r_18.length 0 r_18.length), (9, .v (.int .i64 0)), (12, .v (.int .i64 s_34))], [.dead, .dead, .arr true 39 5 r_18.length (r_18.map api_Inst.c)], []⟩) (xo := (fun o => match o with | Sum.inl _ => .ret | Sum.inr (_) => (.exit 0) : (Unit ⊕ Unit) → Ex)) (So := (fun o => match o with | Sum.inl s_38 => ⟨[(6, .v (.bool false))], [], []⟩ | Sum.inr (s_39) => ⟨[(0, .ro false 8 a_1.length (a_1.map api_Ins.c)), (8, .sl 0 2 r_18.length 0 r_18.length), (9, .v (.int .i64 0))], [.dead, .dead, .arr true 39 5 r_18.length (r_18.map api_Inst.c)], []⟩ : (Unit ⊕ Unit) → ASt)) (by intro o; rcases o with _ | _ <;> simp) (fun s_34 z H => by
       unfold selvagelaw17_EmitWords.l1 at H
       rcases ic H with ⟨h_40, H⟩ | ⟨h_40, H⟩
       ·obtain ⟨g_41, H⟩ := gdE H
        let v_42 : api_Inst := gi r_18 s_34
        replace H := ltD H
        obtain ⟨r_43, e_44, H⟩ := bdE H
        rcases ic H with ⟨h_45, H⟩ | ⟨h_45, H⟩
        ·obtain rfl := sj H
         exact fn [br h_40, pf g_41, el api_Inst.c g_41, ca [] (isa_Encode.ev e_44), bn h_45] (by kernel_rfl)
        ·obtain rfl := sj H
         exact fn [br h_40, pf g_41, el api_Inst.c g_41, ca [] (isa_Encode.ev e_44), bn h_45] (by kernel_rfl)
       ·obtain rfl := sj H
        exact fn [br h_40] (by kernel_rfl)) e_36
      rcases o_35 with s_38 | s_39
      ·obtain rfl := sj H
       exact selvagelaw17_EmitWords.F.run tb mixed [ca [] (selvagelaw17_awake.ev e_5), bn h_6, sg_ 3 j_9, br h_13, ca [] (selvageref10_Copy.ev e_15), here 6, frz 0 [7] [], ca [] (emit_Emit_2.ev e_17), ca [] (selvageref14_Homes.ev e_22), sg_ 8 j_27, br h_31, su j_37] rfl (by kernel_rfl)
      ·rcases ie H with ⟨h_46, H⟩ | ⟨h_46, H⟩
       ·let v_47 : Int := wr .i64 ((20 : Int) * (a_1.length : Int))
        replace H := ltD H
        obtain rfl := sj H
        exact selvagelaw17_EmitWords.F.run tb mixed [ca [] (selvagelaw17_awake.ev e_5), bn h_6, sg_ 3 j_9, br h_13, ca [] (selvageref10_Copy.ev e_15), here 6, frz 0 [7] [], ca [] (emit_Emit_2.ev e_17), ca [] (selvageref14_Homes.ev e_22), sg_ 8 j_27, br h_31, su j_37, br h_46, pT] rfl (by kernel_rfl)
       ·obtain rfl := sj H
        exact selvagelaw17_EmitWords.F.run tb mixed [ca [] (selvagelaw17_awake.ev e_5), bn h_6, sg_ 3 j_9, br h_13, ca [] (selvageref10_Copy.ev e_15), here 6, frz 0 [7] [], ca [] (emit_Emit_2.ev e_17), ca [] (selvageref14_Homes.ev e_22), sg_ 8 j_27, br h_31, su j_37, br h_46, pF] rfl (by kernel_rfl)
    ·obtain ⟨r_48, e_49, H⟩ := bdE H
     rcases ie H with ⟨h_50, H⟩ | ⟨h_50, H⟩
     ·obtain ⟨o_54, e_55, H⟩ := bdE H
      have j_56 := Runs.loop (P := Try.prog) (N := selvagelaw17_EmitWords.F.N) (m0 := 0) (c := sub_ selvagelaw17_EmitWords.F.c [1, 1, 1, 1, 1, 1, 0, 1, 0, 0]) (f := (selvagelaw17_EmitWords.l2 r_18)) (St := fun s_53 => ⟨[(0, .ro false 8 a_1.length (a_1.map api_Ins.c)), (8, .sl 0 2 r_18.length 0 r_18.length), (9, .v (.int .i64 0)), (12, .v (.int .i64 s_53))], [.dead, .dead, .arr true 39 5 r_18.length (r_18.map api_Inst.c)], []⟩) (xo := (fun o => match o with | Sum.inl _ => .ret | Sum.inr (_) => (.exit 0) : (Unit ⊕ Unit) → Ex)) (So := (fun o => match o with | Sum.inl s_57 => ⟨[(6, .v (.bool false))], [], []⟩ | Sum.inr (s_58) => ⟨[(0, .ro false 8 a_1.length (a_1.map api_Ins.c)), (8, .sl 0 2 r_18.length 0 r_18.length), (9, .v (.int .i64 0))], [.dead, .dead, .arr true 39 5 r_18.length (r_18.map api_Inst.c)], []⟩ : (Unit ⊕ Unit) → ASt)) (by intro o; rcases o with _ | _ <;> simp) (fun s_53 z H => by
       unfold selvagelaw17_EmitWords.l2 at H
       rcases ic H with ⟨h_59, H⟩ | ⟨h_59, H⟩
       ·obtain ⟨g_60, H⟩ := gdE H
        let v_61 : api_Inst := gi r_18 s_53
        replace H := ltD H
        obtain ⟨r_62, e_63, H⟩ := bdE H
        rcases ic H with ⟨h_64, H⟩ | ⟨h_64, H⟩
        ·obtain rfl := sj H
         exact fn [br h_59, pf g_60, el api_Inst.c g_60, ca [] (isa_Encode.ev e_63), bn h_64] (by kernel_rfl)
        ·obtain rfl := sj H
         exact fn [br h_59, pf g_60, el api_Inst.c g_60, ca [] (isa_Encode.ev e_63), bn h_64] (by kernel_rfl)
       ·obtain rfl := sj H
        exact fn [br h_59] (by kernel_rfl)) e_55
      rcases o_54 with s_57 | s_58
      ·obtain rfl := sj H
       exact selvagelaw17_EmitWords.F.run tb mixed [ca [] (selvagelaw17_awake.ev e_5), bn h_6, sg_ 3 j_9, br h_13, ca [] (selvageref10_Copy.ev e_15), here 6, frz 0 [7] [], ca [] (emit_Emit_2.ev e_17), ca [] (selvageref14_Homes.ev e_22), au, ca [] (selvageref10_Same.ev e_49), pF, bn h_50, su j_56] rfl (by kernel_rfl)
      ·rcases ie H with ⟨h_65, H⟩ | ⟨h_65, H⟩
       ·let v_66 : Int := wr .i64 ((20 : Int) * (a_1.length : Int))
        replace H := ltD H
        obtain rfl := sj H
        exact selvagelaw17_EmitWords.F.run tb mixed [ca [] (selvagelaw17_awake.ev e_5), bn h_6, sg_ 3 j_9, br h_13, ca [] (selvageref10_Copy.ev e_15), here 6, frz 0 [7] [], ca [] (emit_Emit_2.ev e_17), ca [] (selvageref14_Homes.ev e_22), au, ca [] (selvageref10_Same.ev e_49), pF, bn h_50, su j_56, br h_65, pT] rfl (by kernel_rfl)
       ·obtain rfl := sj H
        exact selvagelaw17_EmitWords.F.run tb mixed [ca [] (selvagelaw17_awake.ev e_5), bn h_6, sg_ 3 j_9, br h_13, ca [] (selvageref10_Copy.ev e_15), here 6, frz 0 [7] [], ca [] (emit_Emit_2.ev e_17), ca [] (selvageref14_Homes.ev e_22), au, ca [] (selvageref10_Same.ev e_49), pF, bn h_50, su j_56, br h_65, pF] rfl (by kernel_rfl)
     ·obtain rfl := sj H
      exact selvagelaw17_EmitWords.F.run tb mixed [ca [] (selvagelaw17_awake.ev e_5), bn h_6, sg_ 3 j_9, br h_13, ca [] (selvageref10_Copy.ev e_15), here 6, frz 0 [7] [], ca [] (emit_Emit_2.ev e_17), ca [] (selvageref14_Homes.ev e_22), au, ca [] (selvageref10_Same.ev e_49), pF, bn h_50] rfl (by kernel_rfl)
   ·obtain ⟨r_67, e_68, H⟩ := bdE H
    rcases r_67 with r_69 | r_70
    ·obtain ⟨o_71, e_72, H⟩ := bdE H
     have j_73 : Runs Try.prog selvagelaw17_EmitWords.F.N 0 (sub_ selvagelaw17_EmitWords.F.c [1, 1, 1, 1, 1, 0, 1, 0]) ⟨[(0, .ro false 8 a_1.length (a_1.map api_Ins.c)), (7, .ro false 8 r_14.length (r_14.map api_Ins.c)), (8, .v (.slice none 0 0)), (9, .v (.int .i64 r_19)), (11, .v (.int .i64 r_69))], [], []⟩ ((fun _ => .normal : Bool → Ex) o_71) ((fun o_71 => ⟨[(0, .ro false 8 a_1.length (a_1.map api_Ins.c)), (8, .v (.slice none 0 0)), (9, .v (.int .i64 r_19)), (50, .v (.bool o_71))], [], []⟩ : Bool → ASt) o_71) := by
      clear H
      have H := e_72
      clear e_72
      rcases ic H with ⟨h_74, H⟩ | ⟨h_74, H⟩
      ·obtain ⟨r_75, e_76, H⟩ := bdE H
       obtain rfl := sj H
       exact fn [bn h_74, ca [] (selvageref10_Same.ev e_76), pF] (by kernel_rfl)
      ·obtain rfl := sj H
       exact fn [bn h_74, pT] (by kernel_rfl)
     rcases ie H with ⟨h_77, H⟩ | ⟨h_77, H⟩
     ·obtain rfl := sj H
      exact selvagelaw17_EmitWords.F.run tb mixed [ca [] (selvagelaw17_awake.ev e_5), bn h_6, sg_ 3 j_9, br h_13, ca [] (selvageref10_Copy.ev e_15), here 6, frz 0 [7] [], ca [] (emit_Emit_2.ev e_17), ca [] (selvageref14_Homes.ev e_68), sg_ 8 j_73, br h_77] rfl (by kernel_rfl)
     ·obtain ⟨o_80, e_81, H⟩ := bdE H
      have j_82 := Runs.loop (P := Try.prog) (N := selvagelaw17_EmitWords.F.N) (m0 := 0) (c := sub_ selvagelaw17_EmitWords.F.c [1, 1, 1, 1, 1, 1, 0, 1, 0, 0]) (f := selvagelaw17_EmitWords.l3) (St := fun s_79 => ⟨[(0, .ro false 8 a_1.length (a_1.map api_Ins.c)), (8, .v (.slice none 0 0)), (9, .v (.int .i64 r_19)), (12, .v (.int .i64 0))], [], []⟩) (xo := (fun _ => (.exit 0) : Unit → Ex)) (So := (fun o_80 => ⟨[(0, .ro false 8 a_1.length (a_1.map api_Ins.c)), (8, .v (.slice none 0 0)), (9, .v (.int .i64 r_19))], [], []⟩ : Unit → ASt)) (by intro o; simp) (fun s_79 z H => by
       unfold selvagelaw17_EmitWords.l3 at H
       obtain rfl := sj H
       exact fn [au] (by kernel_rfl)) e_81
      rcases ie H with ⟨h_83, H⟩ | ⟨h_83, H⟩
      ·let v_84 : Int := wr .i64 ((20 : Int) * (a_1.length : Int))
       replace H := ltD H
       obtain rfl := sj H
       exact selvagelaw17_EmitWords.F.run tb mixed [ca [] (selvagelaw17_awake.ev e_5), bn h_6, sg_ 3 j_9, br h_13, ca [] (selvageref10_Copy.ev e_15), here 6, frz 0 [7] [], ca [] (emit_Emit_2.ev e_17), ca [] (selvageref14_Homes.ev e_68), sg_ 8 j_73, br h_77, su j_82, br h_83, pT] rfl (by kernel_rfl)
      ·obtain rfl := sj H
       exact selvagelaw17_EmitWords.F.run tb mixed [ca [] (selvagelaw17_awake.ev e_5), bn h_6, sg_ 3 j_9, br h_13, ca [] (selvageref10_Copy.ev e_15), here 6, frz 0 [7] [], ca [] (emit_Emit_2.ev e_17), ca [] (selvageref14_Homes.ev e_68), sg_ 8 j_73, br h_77, su j_82, br h_83, pF] rfl (by kernel_rfl)
    ·obtain ⟨o_85, e_86, H⟩ := bdE H
     have j_87 : Runs Try.prog selvagelaw17_EmitWords.F.N 0 (sub_ selvagelaw17_EmitWords.F.c [1, 1, 1, 1, 1, 0, 1, 0]) ⟨[(0, .ro false 8 a_1.length (a_1.map api_Ins.c)), (7, .ro false 8 r_14.length (r_14.map api_Ins.c)), (8, .v (.slice none 0 0)), (9, .v (.int .i64 r_19)), (11, .v (.int .i64 0))], [], []⟩ ((fun _ => .normal : Bool → Ex) o_85) ((fun o_85 => ⟨[(0, .ro false 8 a_1.length (a_1.map api_Ins.c)), (8, .v (.slice none 0 0)), (9, .v (.int .i64 r_19)), (50, .v (.bool o_85))], [], []⟩ : Bool → ASt) o_85) := by
      clear H
      have H := e_86
      clear e_86
      rcases ic H with ⟨h_88, H⟩ | ⟨h_88, H⟩
      ·obtain ⟨r_89, e_90, H⟩ := bdE H
       obtain rfl := sj H
       exact fn [bn h_88, ca [] (selvageref10_Same.ev e_90), pF] (by kernel_rfl)
      ·obtain rfl := sj H
       exact fn [bn h_88, pT] (by kernel_rfl)
     rcases ie H with ⟨h_91, H⟩ | ⟨h_91, H⟩
     ·obtain rfl := sj H
      exact selvagelaw17_EmitWords.F.run tb mixed [ca [] (selvagelaw17_awake.ev e_5), bn h_6, sg_ 3 j_9, br h_13, ca [] (selvageref10_Copy.ev e_15), here 6, frz 0 [7] [], ca [] (emit_Emit_2.ev e_17), ca [] (selvageref14_Homes.ev e_68), sg_ 8 j_87, br h_91] rfl (by kernel_rfl)
     ·obtain ⟨o_94, e_95, H⟩ := bdE H
      have j_96 := Runs.loop (P := Try.prog) (N := selvagelaw17_EmitWords.F.N) (m0 := 0) (c := sub_ selvagelaw17_EmitWords.F.c [1, 1, 1, 1, 1, 1, 0, 1, 0, 0]) (f := selvagelaw17_EmitWords.l4) (St := fun s_93 => ⟨[(0, .ro false 8 a_1.length (a_1.map api_Ins.c)), (8, .v (.slice none 0 0)), (9, .v (.int .i64 r_19)), (12, .v (.int .i64 0))], [], []⟩) (xo := (fun _ => (.exit 0) : Unit → Ex)) (So := (fun o_94 => ⟨[(0, .ro false 8 a_1.length (a_1.map api_Ins.c)), (8, .v (.slice none 0 0)), (9, .v (.int .i64 r_19))], [], []⟩ : Unit → ASt)) (by intro o; simp) (fun s_93 z H => by
       unfold selvagelaw17_EmitWords.l4 at H
       obtain rfl := sj H
       exact fn [au] (by kernel_rfl)) e_95
      rcases ie H with ⟨h_97, H⟩ | ⟨h_97, H⟩
      ·let v_98 : Int := wr .i64 ((20 : Int) * (a_1.length : Int))
       replace H := ltD H
       obtain rfl := sj H
       exact selvagelaw17_EmitWords.F.run tb mixed [ca [] (selvagelaw17_awake.ev e_5), bn h_6, sg_ 3 j_9, br h_13, ca [] (selvageref10_Copy.ev e_15), here 6, frz 0 [7] [], ca [] (emit_Emit_2.ev e_17), ca [] (selvageref14_Homes.ev e_68), sg_ 8 j_87, br h_91, su j_96, br h_97, pT] rfl (by kernel_rfl)
      ·obtain rfl := sj H
       exact selvagelaw17_EmitWords.F.run tb mixed [ca [] (selvagelaw17_awake.ev e_5), bn h_6, sg_ 3 j_9, br h_13, ca [] (selvageref10_Copy.ev e_15), here 6, frz 0 [7] [], ca [] (emit_Emit_2.ev e_17), ca [] (selvageref14_Homes.ev e_68), sg_ 8 j_87, br h_91, su j_96, br h_97, pF] rfl (by kernel_rfl)
   ·obtain ⟨r_99, e_100, H⟩ := bdE H
    rcases r_99 with r_101 | r_102
    ·obtain ⟨o_103, e_104, H⟩ := bdE H
     have j_105 : Runs Try.prog selvagelaw17_EmitWords.F.N 0 (sub_ selvagelaw17_EmitWords.F.c [1, 1, 1, 1, 1, 0, 1, 0]) ⟨[(0, .ro false 8 a_1.length (a_1.map api_Ins.c)), (7, .ro false 8 r_14.length (r_14.map api_Ins.c)), (8, .sl 0 3 r_20.2 0 r_20.2), (9, .v (.int .i64 0)), (11, .v (.int .i64 r_101))], [.dead, .dead, .dead, .arr true 39 5 r_20.2 (r_20.1.map api_Inst.c)], []⟩ ((fun _ => .normal : Bool → Ex) o_103) ((fun o_103 => ⟨[(0, .ro false 8 a_1.length (a_1.map api_Ins.c)), (8, .sl 0 3 r_20.2 0 r_20.2), (9, .v (.int .i64 0)), (50, .v (.bool o_103))], [.dead, .dead, .dead, .arr true 39 5 r_20.2 (r_20.1.map api_Inst.c)], []⟩ : Bool → ASt) o_103) := by
      clear H
      have H := e_104
      clear e_104
      rcases ic H with ⟨h_106, H⟩ | ⟨h_106, H⟩
      ·obtain ⟨r_107, e_108, H⟩ := bdE H
       obtain rfl := sj H
       exact fn [bn h_106, ca [] (selvageref10_Same.ev e_108), pF] (by kernel_rfl)
      ·obtain rfl := sj H
       exact fn [bn h_106, pT] (by kernel_rfl)
     rcases ie H with ⟨h_109, H⟩ | ⟨h_109, H⟩
     ·obtain rfl := sj H
      exact selvagelaw17_EmitWords.F.run tb mixed [ca [] (selvagelaw17_awake.ev e_5), bn h_6, sg_ 3 j_9, br h_13, ca [] (selvageref10_Copy.ev e_15), here 6, frz 0 [7] [], ca [] (emit_Emit_2.ev e_17), ca [] (selvageref14_Homes.ev e_100), sg_ 8 j_105, br h_109] rfl (by kernel_rfl)
     ·obtain ⟨o_113, e_114, H⟩ := bdE H
      have j_115 := Runs.loop (P := Try.prog) (N := selvagelaw17_EmitWords.F.N) (m0 := 0) (c := sub_ selvagelaw17_EmitWords.F.c [1, 1, 1, 1, 1, 1, 0, 1, 0, 0]) (f := (selvagelaw17_EmitWords.l5 r_20)) (St := fun s_112 => ⟨[(0, .ro false 8 a_1.length (a_1.map api_Ins.c)), (8, .sl 0 3 r_20.2 0 r_20.2), (9, .v (.int .i64 0)), (12, .v (.int .i64 s_112))], [.dead, .dead, .dead, .arr true 39 5 r_20.2 (r_20.1.map api_Inst.c)], []⟩) (xo := (fun o => match o with | Sum.inl _ => .ret | Sum.inr (_) => (.exit 0) : (Unit ⊕ Unit) → Ex)) (So := (fun o => match o with | Sum.inl s_116 => ⟨[(6, .v (.bool false))], [], []⟩ | Sum.inr (s_117) => ⟨[(0, .ro false 8 a_1.length (a_1.map api_Ins.c)), (8, .sl 0 3 r_20.2 0 r_20.2), (9, .v (.int .i64 0))], [.dead, .dead, .dead, .arr true 39 5 r_20.2 (r_20.1.map api_Inst.c)], []⟩ : (Unit ⊕ Unit) → ASt)) (by intro o; rcases o with _ | _ <;> simp) (fun s_112 z H => by
       unfold selvagelaw17_EmitWords.l5 at H
       rcases ic H with ⟨h_118, H⟩ | ⟨h_118, H⟩
       ·obtain ⟨g_119, H⟩ := gdE H
        obtain ⟨g_120, H⟩ := gdE H
        let v_121 : api_Inst := gi r_20.1 s_112
        replace H := ltD H
        obtain ⟨r_122, e_123, H⟩ := bdE H
        rcases ic H with ⟨h_124, H⟩ | ⟨h_124, H⟩
        ·let v_125 : Int := wr .i64 (s_112 + 1)
         replace H := ltD H
         obtain rfl := sj H
         exact fn [br h_118, pf g_119, el api_Inst.c g_120, ca [] (isa_Encode.ev e_123), bn h_124] (by kernel_rfl)
        ·obtain rfl := sj H
         exact fn [br h_118, pf g_119, el api_Inst.c g_120, ca [] (isa_Encode.ev e_123), bn h_124] (by kernel_rfl)
       ·obtain rfl := sj H
        exact fn [br h_118] (by kernel_rfl)) e_114
      rcases o_113 with s_116 | s_117
      ·obtain rfl := sj H
       exact selvagelaw17_EmitWords.F.run tb mixed [ca [] (selvagelaw17_awake.ev e_5), bn h_6, sg_ 3 j_9, br h_13, ca [] (selvageref10_Copy.ev e_15), here 6, frz 0 [7] [], ca [] (emit_Emit_2.ev e_17), ca [] (selvageref14_Homes.ev e_100), sg_ 8 j_105, br h_109, su j_115] rfl (by kernel_rfl)
      ·rcases ie H with ⟨h_126, H⟩ | ⟨h_126, H⟩
       ·let v_127 : Int := wr .i64 ((20 : Int) * (a_1.length : Int))
        replace H := ltD H
        obtain rfl := sj H
        exact selvagelaw17_EmitWords.F.run tb mixed [ca [] (selvagelaw17_awake.ev e_5), bn h_6, sg_ 3 j_9, br h_13, ca [] (selvageref10_Copy.ev e_15), here 6, frz 0 [7] [], ca [] (emit_Emit_2.ev e_17), ca [] (selvageref14_Homes.ev e_100), sg_ 8 j_105, br h_109, su j_115, br h_126, pT] rfl (by kernel_rfl)
       ·obtain rfl := sj H
        exact selvagelaw17_EmitWords.F.run tb mixed [ca [] (selvagelaw17_awake.ev e_5), bn h_6, sg_ 3 j_9, br h_13, ca [] (selvageref10_Copy.ev e_15), here 6, frz 0 [7] [], ca [] (emit_Emit_2.ev e_17), ca [] (selvageref14_Homes.ev e_100), sg_ 8 j_105, br h_109, su j_115, br h_126, pF] rfl (by kernel_rfl)
    ·obtain ⟨r_128, e_129, H⟩ := bdE H
     rcases ie H with ⟨h_130, H⟩ | ⟨h_130, H⟩
     ·obtain ⟨o_134, e_135, H⟩ := bdE H
      have j_136 := Runs.loop (P := Try.prog) (N := selvagelaw17_EmitWords.F.N) (m0 := 0) (c := sub_ selvagelaw17_EmitWords.F.c [1, 1, 1, 1, 1, 1, 0, 1, 0, 0]) (f := (selvagelaw17_EmitWords.l6 r_20)) (St := fun s_133 => ⟨[(0, .ro false 8 a_1.length (a_1.map api_Ins.c)), (8, .sl 0 3 r_20.2 0 r_20.2), (9, .v (.int .i64 0)), (12, .v (.int .i64 s_133))], [.dead, .dead, .dead, .arr true 39 5 r_20.2 (r_20.1.map api_Inst.c)], []⟩) (xo := (fun o => match o with | Sum.inl _ => .ret | Sum.inr (_) => (.exit 0) : (Unit ⊕ Unit) → Ex)) (So := (fun o => match o with | Sum.inl s_137 => ⟨[(6, .v (.bool false))], [], []⟩ | Sum.inr (s_138) => ⟨[(0, .ro false 8 a_1.length (a_1.map api_Ins.c)), (8, .sl 0 3 r_20.2 0 r_20.2), (9, .v (.int .i64 0))], [.dead, .dead, .dead, .arr true 39 5 r_20.2 (r_20.1.map api_Inst.c)], []⟩ : (Unit ⊕ Unit) → ASt)) (by intro o; rcases o with _ | _ <;> simp) (fun s_133 z H => by
       unfold selvagelaw17_EmitWords.l6 at H
       rcases ic H with ⟨h_139, H⟩ | ⟨h_139, H⟩
       ·obtain ⟨g_140, H⟩ := gdE H
        obtain ⟨g_141, H⟩ := gdE H
        let v_142 : api_Inst := gi r_20.1 s_133
        replace H := ltD H
        obtain ⟨r_143, e_144, H⟩ := bdE H
        rcases ic H with ⟨h_145, H⟩ | ⟨h_145, H⟩
        ·let v_146 : Int := wr .i64 (s_133 + 1)
         replace H := ltD H
         obtain rfl := sj H
         exact fn [br h_139, pf g_140, el api_Inst.c g_141, ca [] (isa_Encode.ev e_144), bn h_145] (by kernel_rfl)
        ·obtain rfl := sj H
         exact fn [br h_139, pf g_140, el api_Inst.c g_141, ca [] (isa_Encode.ev e_144), bn h_145] (by kernel_rfl)
       ·obtain rfl := sj H
        exact fn [br h_139] (by kernel_rfl)) e_135
      rcases o_134 with s_137 | s_138
      ·obtain rfl := sj H
       exact selvagelaw17_EmitWords.F.run tb mixed [ca [] (selvagelaw17_awake.ev e_5), bn h_6, sg_ 3 j_9, br h_13, ca [] (selvageref10_Copy.ev e_15), here 6, frz 0 [7] [], ca [] (emit_Emit_2.ev e_17), ca [] (selvageref14_Homes.ev e_100), au, ca [] (selvageref10_Same.ev e_129), pF, bn h_130, su j_136] rfl (by kernel_rfl)
      ·rcases ie H with ⟨h_147, H⟩ | ⟨h_147, H⟩
       ·let v_148 : Int := wr .i64 ((20 : Int) * (a_1.length : Int))
        replace H := ltD H
        obtain rfl := sj H
        exact selvagelaw17_EmitWords.F.run tb mixed [ca [] (selvagelaw17_awake.ev e_5), bn h_6, sg_ 3 j_9, br h_13, ca [] (selvageref10_Copy.ev e_15), here 6, frz 0 [7] [], ca [] (emit_Emit_2.ev e_17), ca [] (selvageref14_Homes.ev e_100), au, ca [] (selvageref10_Same.ev e_129), pF, bn h_130, su j_136, br h_147, pT] rfl (by kernel_rfl)
       ·obtain rfl := sj H
        exact selvagelaw17_EmitWords.F.run tb mixed [ca [] (selvagelaw17_awake.ev e_5), bn h_6, sg_ 3 j_9, br h_13, ca [] (selvageref10_Copy.ev e_15), here 6, frz 0 [7] [], ca [] (emit_Emit_2.ev e_17), ca [] (selvageref14_Homes.ev e_100), au, ca [] (selvageref10_Same.ev e_129), pF, bn h_130, su j_136, br h_147, pF] rfl (by kernel_rfl)
     ·obtain rfl := sj H
      exact selvagelaw17_EmitWords.F.run tb mixed [ca [] (selvagelaw17_awake.ev e_5), bn h_6, sg_ 3 j_9, br h_13, ca [] (selvageref10_Copy.ev e_15), here 6, frz 0 [7] [], ca [] (emit_Emit_2.ev e_17), ca [] (selvageref14_Homes.ev e_100), au, ca [] (selvageref10_Same.ev e_129), pF, bn h_130] rfl (by kernel_rfl)
 ·obtain rfl := sj H
  exact selvagelaw17_EmitWords.F.run tb mixed [ca [] (selvagelaw17_awake.ev e_5), bn h_6] rfl (by kernel_rfl)
end Go.Proofs.Ytbhekpcimmaijaa

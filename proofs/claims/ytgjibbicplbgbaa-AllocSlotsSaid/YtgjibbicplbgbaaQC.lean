/- QC: several texts in one. -/
import Derived.Test.YtgjibbicplbgbaaQA
set_option linter.unusedVariables false
set_option linter.unusedSimpArgs false
set_option linter.unusedSectionVars false
set_option maxRecDepth 100000
namespace Go.Proofs.Ytgjibbicplbgbaa
open Go Go.RowKit Go.Proofs Go.Proofs.Ytgjibbicplbgbaa.X
open Go.Proofs.Ytgjibbicplbgbaa.B (wr sb feq fls qf flt i2f aget aset isnan)
noncomputable def selvagelaw14_AllocSlots.F : FI Try.prog 3 := ⟨Try.f3, 88, (Try.f3.body.getD .skip), Try.f3.results.toList, Try.call3, Try.func3, by kernel_rfl, by kernel_rfl, by kernel_rfl⟩
def selvagelaw14_AllocSlots.l2 (s_23 : Unit) : Option (Unit ⊕ Unit) :=
  some (Sum.inr ())
def selvagelaw14_AllocSlots.l1 (s_18 : Unit) : Option (Unit ⊕ Unit) :=
  some (Sum.inr ())
def selvagelaw14_AllocSlots.l5 (r_15 : (List api_Home) × Nat) (s_46 : Int) (s_55 : Int × Int) : Option ((Int × Int) ⊕ Int) :=
  if s_55.2 < (r_15.2 : Int) then (if 0 ≤ s_55.2 ∧ s_55.2 < (r_15.2 : Int) then (if 0 ≤ s_55.2 ∧ s_55.2 < (r_15.1.length : Int) then (letC (gi r_15.1 s_55.2) fun v_62 => if v_62.Reg < (0 : Int) then (letC (gi r_15.1 s_55.2) fun v_64 => if v_64.Slot = s_46 then (letC (wr .i64 (s_55.1 + (1 : Int))) fun v_66 => letC (wr .i64 (s_55.2 + (1 : Int))) fun v_67 => some (Sum.inl (v_66, v_67))) else (letC (wr .i64 (s_55.2 + (1 : Int))) fun v_68 => some (Sum.inl (s_55.1, v_68)))) else (letC (wr .i64 (s_55.2 + (1 : Int))) fun v_69 => some (Sum.inl (s_55.1, v_69)))) else none) else none) else (some (Sum.inr s_55.1))
def selvagelaw14_AllocSlots.l4 (r_15 : (List api_Home) × Nat) (o_30 : Int) (s_46 : Int) : Option (Int ⊕ (Unit ⊕ Unit)) :=
  if s_46 < o_30 then ((B.loop (selvagelaw14_AllocSlots.l5 r_15 s_46) ((0, 0) : Int × Int)).bind fun o_56 => if o_56 = (1 : Int) then (some (Sum.inl (wr .i64 (s_46 + (1 : Int))))) else (some (Sum.inr (Sum.inl ())))) else (some (Sum.inr (Sum.inr ())))
def selvagelaw14_AllocSlots.l3 (r_15 : (List api_Home) × Nat) (s_29 : Int × Int) : Option ((Int × Int) ⊕ Int) :=
  if s_29.2 < (r_15.2 : Int) then (if 0 ≤ s_29.2 ∧ s_29.2 < (r_15.2 : Int) then (if 0 ≤ s_29.2 ∧ s_29.2 < (r_15.1.length : Int) then (letC (gi r_15.1 s_29.2) fun v_36 => if v_36.Reg < (0 : Int) then (letC (gi r_15.1 s_29.2) fun v_38 => if v_38.Slot ≥ (0 : Int) then (letC (wr .i64 (s_29.1 + (1 : Int))) fun v_40 => letC (wr .i64 (s_29.2 + (1 : Int))) fun v_41 => some (Sum.inl (v_40, v_41))) else (letC (wr .i64 (s_29.2 + (1 : Int))) fun v_42 => some (Sum.inl (s_29.1, v_42)))) else (letC (wr .i64 (s_29.2 + (1 : Int))) fun v_43 => some (Sum.inl (s_29.1, v_43)))) else none) else none) else (some (Sum.inr s_29.1))
def selvagelaw14_AllocSlots.m (a_1 : List api_Ins) (a_2 : List api_Loc) (a_3 : Int) : Option (Bool) :=
  (selvagelaw14_awake.m).bind fun r_4 => if r_4 = true then ((if (a_1.length : Int) > (200 : Int) then (some (true : Bool)) else (some ((decide ((a_2.length : Int) > (16 : Int))) : Bool)) : Option Bool).bind fun o_7 => if o_7 = true then (some true) else ((alloc_Homes.m a_1 a_2 a_3).bind fun r_12 => match r_12 with | Sum.inl r_14 => (if r_14 = (0 : Int) then ((B.loop selvagelaw14_AllocSlots.l1 (() : Unit)).bind fun o_19 => (B.loop selvagelaw14_AllocSlots.l2 (() : Unit)).bind fun o_24 => some true) else (some true)) | Sum.inr (r_15) => ((B.loop (selvagelaw14_AllocSlots.l3 r_15) ((0, 0) : Int × Int)).bind fun o_30 => (B.loop (selvagelaw14_AllocSlots.l4 r_15 o_30) (0 : Int)).bind fun o_47 => match o_47 with | Sum.inl s_50 => (some false) | Sum.inr (s_51) => (some true)))) else (some false)
noncomputable def selvagelaw14_AllocSlots.o (a_1 : List api_Ins) (a_2 : List api_Loc) (a_3 : Int) (r : Bool) : Out := .ret (.v (.bool r)) [] []
theorem selvagelaw14_AllocSlots.ev {a_1 : List api_Ins} {a_2 : List api_Loc} {a_3 : Int} {r : Bool} (H : selvagelaw14_AllocSlots.m a_1 a_2 a_3 = some r) : Ev Try.prog 3 [.ro false 8 a_1.length (a_1.map api_Ins.c), .ro false 2 a_2.length (a_2.map api_Loc.c), .v (.int .i64 a_3)] [] [] (selvagelaw14_AllocSlots.o a_1 a_2 a_3 r) := by
  unfold selvagelaw14_AllocSlots.m at H
  obtain ⟨r_4, e_5, H⟩ := bdE H
  rcases b2 r_4 with h_6 | h_6
  · have H := ibT h_6 H
    obtain ⟨o_7, e_8, H⟩ := bdE H
    have j_9 : Runs Try.prog selvagelaw14_AllocSlots.F.N 0 (sub_ selvagelaw14_AllocSlots.F.c [1, 1, 0, 0]) ⟨[(0, .ro false 8 a_1.length (a_1.map api_Ins.c)), (1, .ro false 2 a_2.length (a_2.map api_Loc.c)), (2, .v (.int .i64 a_3))], [], []⟩ ((fun _ => .normal : Bool → Ex) o_7) ((fun o_7 => ⟨[(0, .ro false 8 a_1.length (a_1.map api_Ins.c)), (1, .ro false 2 a_2.length (a_2.map api_Loc.c)), (2, .v (.int .i64 a_3)), (23, .v (.bool o_7))], [], []⟩ : Bool → ASt) o_7) := by
      clear H
      have H := e_8
      clear e_8
      rcases b2 (decide ((a_1.length : Int) > (200 : Int))) with h_10 | h_10
      · have H := itT h_10 H
        obtain rfl := Option.some.inj H
        exact Runs.fin (T := tb) mixed [br h_10, pk (rfl : true = true)] (by kernel_rfl)
      · have H := itF h_10 H
        obtain rfl := Option.some.inj H
        exact Runs.fin (T := tb) mixed [br h_10, pk (rfl : false = false)] (by kernel_rfl)
    rcases b2 o_7 with h_11 | h_11
    · have H := ibT h_11 H
      obtain rfl := Option.some.inj H
      exact selvagelaw14_AllocSlots.F.run tb mixed [ca [] (selvagelaw14_awake.ev e_5), bn h_6, sg_ 3 j_9, br h_11] rfl (by kernel_rfl)
    · have H := ibF h_11 H
      obtain ⟨r_12, e_13, H⟩ := bdE H
      rcases r_12 with r_14 | r_15
      · rcases b2 (decide (r_14 = (0 : Int))) with h_16 | h_16
        · have H := itT h_16 H
          obtain ⟨o_19, e_20, H⟩ := bdE H
          have j_21 := Runs.loop (P := Try.prog) (N := selvagelaw14_AllocSlots.F.N) (m0 := 0) (c := sub_ selvagelaw14_AllocSlots.F.c [1, 1, 1, 1, 1, 1, 0, 1, 0, 0]) (f := selvagelaw14_AllocSlots.l1) (St := fun s_18 => ⟨[(7, .v (.slice none 0 0)), (9, .v (.int .i64 0)), (10, .v (.int .i64 0))], [], []⟩) (xo := (fun _ => (.exit 0) : Unit → Ex)) (So := (fun o_19 => ⟨[(7, .v (.slice none 0 0)), (9, .v (.int .i64 0))], [], []⟩ : Unit → ASt)) (by intro o; simp) (fun s_18 z H => by
            unfold selvagelaw14_AllocSlots.l1 at H
            obtain rfl := Option.some.inj H
            exact Runs.fin (T := tb) mixed [au] (by kernel_rfl)) e_20
          obtain ⟨o_24, e_25, H⟩ := bdE H
          have j_26 := Runs.loop (P := Try.prog) (N := selvagelaw14_AllocSlots.F.N) (m0 := 0) (c := sub_ selvagelaw14_AllocSlots.F.c [1, 1, 1, 1, 1, 1, 1, 0, 1, 0, 0]) (f := selvagelaw14_AllocSlots.l2) (St := fun s_23 => ⟨[(7, .v (.slice none 0 0)), (9, .v (.int .i64 0)), (11, .v (.int .i64 0))], [], []⟩) (xo := (fun _ => (.exit 2) : Unit → Ex)) (So := (fun o_24 => ⟨[], [], []⟩ : Unit → ASt)) (by intro o; simp) (fun s_23 z H => by
            unfold selvagelaw14_AllocSlots.l2 at H
            obtain rfl := Option.some.inj H
            exact Runs.fin (T := tb) mixed [au] (by kernel_rfl)) e_25
          obtain rfl := Option.some.inj H
          exact selvagelaw14_AllocSlots.F.run tb mixed [ca [] (selvagelaw14_awake.ev e_5), bn h_6, sg_ 3 j_9, br h_11, ca [] (alloc_Homes.ev e_13), bn h_16, su j_21, su j_26] rfl (by kernel_rfl)
        · have H := itF h_16 H
          obtain rfl := Option.some.inj H
          exact selvagelaw14_AllocSlots.F.run tb mixed [ca [] (selvagelaw14_awake.ev e_5), bn h_6, sg_ 3 j_9, br h_11, ca [] (alloc_Homes.ev e_13), bn h_16] rfl (by kernel_rfl)
      · obtain ⟨o_30, e_31, H⟩ := bdE H
        have j_32 := Runs.loop (P := Try.prog) (N := selvagelaw14_AllocSlots.F.N) (m0 := 0) (c := sub_ selvagelaw14_AllocSlots.F.c [1, 1, 1, 1, 1, 1, 0, 1, 0, 0]) (f := (selvagelaw14_AllocSlots.l3 r_15)) (St := fun s_29 => ⟨[(7, .sl 0 0 r_15.2 0 r_15.2), (9, .v (.int .i64 s_29.1)), (10, .v (.int .i64 s_29.2))], [.arr true 30 2 r_15.2 (r_15.1.map api_Home.c)], []⟩) (xo := (fun _ => (.exit 0) : Int → Ex)) (So := (fun o_30 => ⟨[(7, .sl 0 0 r_15.2 0 r_15.2), (9, .v (.int .i64 o_30))], [.arr true 30 2 r_15.2 (r_15.1.map api_Home.c)], []⟩ : Int → ASt)) (by intro o; simp) (fun s_29 z H => by
          unfold selvagelaw14_AllocSlots.l3 at H
          rcases b2 (decide (s_29.2 < (r_15.2 : Int))) with h_33 | h_33
          · have H := itT h_33 H
            obtain ⟨g_34, H⟩ := gdE H
            obtain ⟨g_35, H⟩ := gdE H
            let v_36 : api_Home := gi r_15.1 s_29.2
            replace H := ltD H
            rcases b2 (decide (v_36.Reg < (0 : Int))) with h_37 | h_37
            · have H := itT h_37 H
              let v_38 : api_Home := gi r_15.1 s_29.2
              replace H := ltD H
              rcases b2 (decide (v_38.Slot ≥ (0 : Int))) with h_39 | h_39
              · have H := itT h_39 H
                let v_40 : Int := wr .i64 (s_29.1 + (1 : Int))
                replace H := ltD H
                let v_41 : Int := wr .i64 (s_29.2 + (1 : Int))
                replace H := ltD H
                obtain rfl := Option.some.inj H
                exact Runs.fin (T := tb) mixed [br h_33, pf g_34, el api_Home.c g_35, br h_37, pf g_34, el api_Home.c g_35, pk (rfl : true = true), br h_39] (by kernel_rfl)
              · have H := itF h_39 H
                let v_42 : Int := wr .i64 (s_29.2 + (1 : Int))
                replace H := ltD H
                obtain rfl := Option.some.inj H
                exact Runs.fin (T := tb) mixed [br h_33, pf g_34, el api_Home.c g_35, br h_37, pf g_34, el api_Home.c g_35, pk (rfl : true = true), br h_39] (by kernel_rfl)
            · have H := itF h_37 H
              let v_43 : Int := wr .i64 (s_29.2 + (1 : Int))
              replace H := ltD H
              obtain rfl := Option.some.inj H
              exact Runs.fin (T := tb) mixed [br h_33, pf g_34, el api_Home.c g_35, br h_37, pk (rfl : false = false), au] (by kernel_rfl)
          · have H := itF h_33 H
            obtain rfl := Option.some.inj H
            exact Runs.fin (T := tb) mixed [br h_33] (by kernel_rfl)) e_31
        obtain ⟨o_47, e_48, H⟩ := bdE H
        have j_49 := Runs.loop (P := Try.prog) (N := selvagelaw14_AllocSlots.F.N) (m0 := 0) (c := sub_ selvagelaw14_AllocSlots.F.c [1, 1, 1, 1, 1, 1, 1, 0, 1, 0, 0]) (f := (selvagelaw14_AllocSlots.l4 r_15 o_30)) (St := fun s_46 => ⟨[(7, .sl 0 0 r_15.2 0 r_15.2), (9, .v (.int .i64 o_30)), (11, .v (.int .i64 s_46))], [.arr true 30 2 r_15.2 (r_15.1.map api_Home.c)], []⟩) (xo := (fun o => match o with | Sum.inl _ => .ret | Sum.inr (_) => (.exit 2) : (Unit ⊕ Unit) → Ex)) (So := (fun o => match o with | Sum.inl s_50 => ⟨[(6, .v (.bool false))], [], []⟩ | Sum.inr (s_51) => ⟨[], [], []⟩ : (Unit ⊕ Unit) → ASt)) (by intro o; rcases o with _ | _ <;> simp) (fun s_46 z H => by
          unfold selvagelaw14_AllocSlots.l4 at H
          rcases b2 (decide (s_46 < o_30)) with h_52 | h_52
          · have H := itT h_52 H
            obtain ⟨o_56, e_57, H⟩ := bdE H
            have j_58 := Runs.loop (P := Try.prog) (N := selvagelaw14_AllocSlots.F.N) (m0 := 0) (c := sub_ selvagelaw14_AllocSlots.F.c [1, 1, 1, 1, 1, 1, 1, 0, 1, 0, 0, 1, 0, 0, 1, 0, 1, 0, 0]) (f := (selvagelaw14_AllocSlots.l5 r_15 s_46)) (St := fun s_55 => ⟨[(7, .sl 0 0 r_15.2 0 r_15.2), (9, .v (.int .i64 o_30)), (11, .v (.int .i64 s_46)), (12, .v (.int .i64 s_55.1)), (13, .v (.int .i64 s_55.2))], [.arr true 30 2 r_15.2 (r_15.1.map api_Home.c)], []⟩) (xo := (fun _ => (.exit 4) : Int → Ex)) (So := (fun o_56 => ⟨[(7, .sl 0 0 r_15.2 0 r_15.2), (9, .v (.int .i64 o_30)), (11, .v (.int .i64 s_46)), (12, .v (.int .i64 o_56))], [.arr true 30 2 r_15.2 (r_15.1.map api_Home.c)], []⟩ : Int → ASt)) (by intro o; simp) (fun s_55 z H => by
              unfold selvagelaw14_AllocSlots.l5 at H
              rcases b2 (decide (s_55.2 < (r_15.2 : Int))) with h_59 | h_59
              · have H := itT h_59 H
                obtain ⟨g_60, H⟩ := gdE H
                obtain ⟨g_61, H⟩ := gdE H
                let v_62 : api_Home := gi r_15.1 s_55.2
                replace H := ltD H
                rcases b2 (decide (v_62.Reg < (0 : Int))) with h_63 | h_63
                · have H := itT h_63 H
                  let v_64 : api_Home := gi r_15.1 s_55.2
                  replace H := ltD H
                  rcases b2 (decide (v_64.Slot = s_46)) with h_65 | h_65
                  · have H := itT h_65 H
                    let v_66 : Int := wr .i64 (s_55.1 + (1 : Int))
                    replace H := ltD H
                    let v_67 : Int := wr .i64 (s_55.2 + (1 : Int))
                    replace H := ltD H
                    obtain rfl := Option.some.inj H
                    exact Runs.fin (T := tb) mixed [br h_59, pf g_60, el api_Home.c g_61, br h_63, pf g_60, el api_Home.c g_61, pk (rfl : true = true), br h_65] (by kernel_rfl)
                  · have H := itF h_65 H
                    let v_68 : Int := wr .i64 (s_55.2 + (1 : Int))
                    replace H := ltD H
                    obtain rfl := Option.some.inj H
                    exact Runs.fin (T := tb) mixed [br h_59, pf g_60, el api_Home.c g_61, br h_63, pf g_60, el api_Home.c g_61, pk (rfl : true = true), br h_65] (by kernel_rfl)
                · have H := itF h_63 H
                  let v_69 : Int := wr .i64 (s_55.2 + (1 : Int))
                  replace H := ltD H
                  obtain rfl := Option.some.inj H
                  exact Runs.fin (T := tb) mixed [br h_59, pf g_60, el api_Home.c g_61, br h_63, pk (rfl : false = false), au] (by kernel_rfl)
              · have H := itF h_59 H
                obtain rfl := Option.some.inj H
                exact Runs.fin (T := tb) mixed [br h_59] (by kernel_rfl)) e_57
            rcases b2 (decide (o_56 = (1 : Int))) with h_70 | h_70
            · have H := itT h_70 H
              obtain rfl := Option.some.inj H
              exact Runs.fin (T := tb) mixed [br h_52, su j_58, bn h_70] (by kernel_rfl)
            · have H := itF h_70 H
              obtain rfl := Option.some.inj H
              exact Runs.fin (T := tb) mixed [br h_52, su j_58, bn h_70] (by kernel_rfl)
          · have H := itF h_52 H
            obtain rfl := Option.some.inj H
            exact Runs.fin (T := tb) mixed [br h_52] (by kernel_rfl)) e_48
        rcases o_47 with s_50 | s_51
        · obtain rfl := Option.some.inj H
          exact selvagelaw14_AllocSlots.F.run tb mixed [ca [] (selvagelaw14_awake.ev e_5), bn h_6, sg_ 3 j_9, br h_11, ca [] (alloc_Homes.ev e_13), au, su j_32, su j_49] rfl (by kernel_rfl)
        · obtain rfl := Option.some.inj H
          exact selvagelaw14_AllocSlots.F.run tb mixed [ca [] (selvagelaw14_awake.ev e_5), bn h_6, sg_ 3 j_9, br h_11, ca [] (alloc_Homes.ev e_13), au, su j_32, su j_49] rfl (by kernel_rfl)
  · have H := ibF h_6 H
    obtain rfl := Option.some.inj H
    exact selvagelaw14_AllocSlots.F.run tb mixed [ca [] (selvagelaw14_awake.ev e_5), bn h_6] rfl (by kernel_rfl)
end Go.Proofs.Ytgjibbicplbgbaa

/- QD: several texts in one. -/
import Derived.Test.YtgjibbicplbgbaaQA
import Derived.Test.YtgjibbicplbgbaaQB
set_option linter.unusedVariables false
set_option linter.unusedSimpArgs false
set_option linter.unusedSectionVars false
set_option maxRecDepth 100000
namespace Go.Proofs.Ytgjibbicplbgbaa
open Go Go.RowKit Go.Proofs Go.Proofs.Ytgjibbicplbgbaa.X
open Go.Proofs.Ytgjibbicplbgbaa.B (wr sb feq fls qf flt i2f aget aset isnan)
noncomputable def selvagelaw14_AllocApart.F : FI Try.prog 5 := ⟨Try.f5, 187, (Try.f5.body.getD .skip), Try.f5.results.toList, Try.call5, Try.func5, by kernel_rfl, by kernel_rfl, by kernel_rfl⟩
def selvagelaw14_AllocApart.l1 (s_18 : Unit) : Option (Unit ⊕ Unit) :=
  some (Sum.inr ())
def selvagelaw14_AllocApart.l3 (a_1 : List api_Ins) (r_15 : (List api_Home) × Nat) (s_24 : Int) (r_31 : Int × Int × Bool) (s_53 : Int) : Option (Int ⊕ (Unit ⊕ Unit)) :=
  if s_53 < s_24 then ((alloc_Span.m a_1 s_53).bind fun r_60 => if r_60.2.2 = true then ((if 0 ≤ s_24 ∧ s_24 < (r_15.2 : Int) then (if 0 ≤ s_24 ∧ s_24 < (r_15.1.length : Int) then (letC (gi r_15.1 s_24) fun v_68 => if v_68.Reg < (0 : Int) then (if 0 ≤ s_53 ∧ s_53 < (r_15.2 : Int) then (if 0 ≤ s_53 ∧ s_53 < (r_15.1.length : Int) then (letC (gi r_15.1 s_53) fun v_72 => if v_72.Reg < (0 : Int) then (letC (gi r_15.1 s_24) fun v_74 => letC (gi r_15.1 s_53) fun v_75 => if v_74.Slot = v_75.Slot then (some (true : Bool)) else (letC (gi r_15.1 s_24) fun v_77 => if v_77.Reg ≥ (0 : Int) then (letC (gi r_15.1 s_24) fun v_79 => letC (gi r_15.1 s_53) fun v_80 => if v_79.Reg = v_80.Reg then (if r_60.1 ≤ r_31.2.1 then (some ((decide (r_31.1 ≤ r_60.2.1)) : Bool)) else (some (false : Bool))) else (some (false : Bool))) else (some (false : Bool)))) else (letC (gi r_15.1 s_24) fun v_83 => if v_83.Reg ≥ (0 : Int) then (letC (gi r_15.1 s_24) fun v_85 => letC (gi r_15.1 s_53) fun v_86 => if v_85.Reg = v_86.Reg then (if r_60.1 ≤ r_31.2.1 then (some ((decide (r_31.1 ≤ r_60.2.1)) : Bool)) else (some (false : Bool))) else (some (false : Bool))) else (some (false : Bool)))) else none) else none) else (letC (gi r_15.1 s_24) fun v_89 => if v_89.Reg ≥ (0 : Int) then (letC (gi r_15.1 s_24) fun v_91 => if 0 ≤ s_53 ∧ s_53 < (r_15.2 : Int) then (if 0 ≤ s_53 ∧ s_53 < (r_15.1.length : Int) then (letC (gi r_15.1 s_53) fun v_94 => if v_91.Reg = v_94.Reg then (if r_60.1 ≤ r_31.2.1 then (some ((decide (r_31.1 ≤ r_60.2.1)) : Bool)) else (some (false : Bool))) else (some (false : Bool))) else none) else none) else (some (false : Bool)))) else none) else none : Option Bool).bind fun o_63 => if o_63 = true then (some (Sum.inr (Sum.inl ()))) else (some (Sum.inl (wr .i64 (s_53 + (1 : Int)))))) else (some (Sum.inl (wr .i64 (s_53 + (1 : Int)))))) else (some (Sum.inr (Sum.inr ())))
def selvagelaw14_AllocApart.l2 (a_1 : List api_Ins) (a_3 : Int) (r_15 : (List api_Home) × Nat) (s_24 : Int) : Option (Int ⊕ (Unit ⊕ Unit)) :=
  if s_24 < (r_15.2 : Int) then ((alloc_Span.m a_1 s_24).bind fun r_31 => if r_31.2.2 = true then ((if 0 ≤ s_24 ∧ s_24 < (r_15.2 : Int) then (if 0 ≤ s_24 ∧ s_24 < (r_15.1.length : Int) then (letC (gi r_15.1 s_24) fun v_39 => if v_39.Reg < (-1 : Int) then (some (true : Bool)) else (letC (gi r_15.1 s_24) fun v_41 => if v_41.Reg ≥ a_3 then (some (true : Bool)) else (letC (gi r_15.1 s_24) fun v_43 => if v_43.Slot < (0 : Int) then (some (true : Bool)) else (letC (gi r_15.1 s_24) fun v_45 => if v_45.Slot ≥ (400 : Int) then (some (true : Bool)) else (letC (gi r_15.1 s_24) fun v_47 => if v_47.Reg ≥ (0 : Int) then (letC (gi r_15.1 s_24) fun v_49 => some ((!(decide (v_49.Slot = (0 : Int)))) : Bool)) else (some (false : Bool))))))) else none) else none : Option Bool).bind fun o_34 => if o_34 = true then (some (Sum.inr (Sum.inl ()))) else ((B.loop (selvagelaw14_AllocApart.l3 a_1 r_15 s_24 r_31) (0 : Int)).bind fun o_54 => match o_54 with | Sum.inl s_57 => (some (Sum.inr (Sum.inl ()))) | Sum.inr (s_58) => (some (Sum.inl (wr .i64 (s_24 + (1 : Int))))))) else (if 0 ≤ s_24 ∧ s_24 < (r_15.2 : Int) then (if 0 ≤ s_24 ∧ s_24 < (r_15.1.length : Int) then (letC (gi r_15.1 s_24) fun v_100 => if v_100.Reg = (-1 : Int) then (letC (gi r_15.1 s_24) fun v_102 => if v_102.Slot = (-1 : Int) then (some (Sum.inl (wr .i64 (s_24 + (1 : Int))))) else (some (Sum.inr (Sum.inl ())))) else (some (Sum.inr (Sum.inl ())))) else none) else none)) else (some (Sum.inr (Sum.inr ())))
def selvagelaw14_AllocApart.m (a_1 : List api_Ins) (a_2 : List api_Loc) (a_3 : Int) : Option (Bool) :=
  (selvagelaw14_awake.m).bind fun r_4 => if r_4 = true then ((if (a_1.length : Int) > (200 : Int) then (some (true : Bool)) else (some ((decide ((a_2.length : Int) > (16 : Int))) : Bool)) : Option Bool).bind fun o_7 => if o_7 = true then (some true) else ((alloc_Homes.m a_1 a_2 a_3).bind fun r_12 => match r_12 with | Sum.inl r_14 => (if r_14 = (0 : Int) then ((B.loop selvagelaw14_AllocApart.l1 (() : Unit)).bind fun o_19 => some true) else (some true)) | Sum.inr (r_15) => ((B.loop (selvagelaw14_AllocApart.l2 a_1 a_3 r_15) (0 : Int)).bind fun o_25 => match o_25 with | Sum.inl s_28 => (some false) | Sum.inr (s_29) => (some true)))) else (some false)
noncomputable def selvagelaw14_AllocApart.o (a_1 : List api_Ins) (a_2 : List api_Loc) (a_3 : Int) (r : Bool) : Out := .ret (.v (.bool r)) [] []
theorem selvagelaw14_AllocApart.ev {a_1 : List api_Ins} {a_2 : List api_Loc} {a_3 : Int} {r : Bool} (H : selvagelaw14_AllocApart.m a_1 a_2 a_3 = some r) : Ev Try.prog 5 [.ro false 8 a_1.length (a_1.map api_Ins.c), .ro false 2 a_2.length (a_2.map api_Loc.c), .v (.int .i64 a_3)] [] [] (selvagelaw14_AllocApart.o a_1 a_2 a_3 r) := by
  unfold selvagelaw14_AllocApart.m at H
  obtain ⟨r_4, e_5, H⟩ := bdE H
  rcases b2 r_4 with h_6 | h_6
  · have H := ibT h_6 H
    obtain ⟨o_7, e_8, H⟩ := bdE H
    have j_9 : Runs Try.prog selvagelaw14_AllocApart.F.N 0 (sub_ selvagelaw14_AllocApart.F.c [1, 1, 0, 0]) ⟨[(0, .ro false 8 a_1.length (a_1.map api_Ins.c)), (1, .ro false 2 a_2.length (a_2.map api_Loc.c)), (2, .v (.int .i64 a_3))], [], []⟩ ((fun _ => .normal : Bool → Ex) o_7) ((fun o_7 => ⟨[(0, .ro false 8 a_1.length (a_1.map api_Ins.c)), (1, .ro false 2 a_2.length (a_2.map api_Loc.c)), (2, .v (.int .i64 a_3)), (26, .v (.bool o_7))], [], []⟩ : Bool → ASt) o_7) := by
      clear H
      have H := e_8
      clear e_8
      rcases b2 (decide ((a_1.length : Int) > (200 : Int))) with h_10 | h_10
      · have H := itT h_10 H
        obtain rfl := Option.some.inj H
        exact Runs.fin (T := tb) mixed [br h_10, pk (rfl : true = true)] (by kernel_rfl)
      · have H := itF h_10 H
        obtain rfl := Option.some.inj H
        exact Runs.fin (T := tb) mixed [br h_10, pk (rfl : false = false)] (by kernel_rfl)
    rcases b2 o_7 with h_11 | h_11
    · have H := ibT h_11 H
      obtain rfl := Option.some.inj H
      exact selvagelaw14_AllocApart.F.run tb mixed [ca [] (selvagelaw14_awake.ev e_5), bn h_6, sg_ 3 j_9, br h_11] rfl (by kernel_rfl)
    · have H := ibF h_11 H
      obtain ⟨r_12, e_13, H⟩ := bdE H
      rcases r_12 with r_14 | r_15
      · rcases b2 (decide (r_14 = (0 : Int))) with h_16 | h_16
        · have H := itT h_16 H
          obtain ⟨o_19, e_20, H⟩ := bdE H
          have j_21 := Runs.loop (P := Try.prog) (N := selvagelaw14_AllocApart.F.N) (m0 := 0) (c := sub_ selvagelaw14_AllocApart.F.c [1, 1, 1, 1, 1, 0, 1, 0, 0]) (f := selvagelaw14_AllocApart.l1) (St := fun s_18 => ⟨[(0, .ro false 8 a_1.length (a_1.map api_Ins.c)), (2, .v (.int .i64 a_3)), (7, .v (.slice none 0 0)), (9, .v (.int .i64 0))], [], []⟩) (xo := (fun _ => (.exit 0) : Unit → Ex)) (So := (fun o_19 => ⟨[], [], []⟩ : Unit → ASt)) (by intro o; simp) (fun s_18 z H => by
            unfold selvagelaw14_AllocApart.l1 at H
            obtain rfl := Option.some.inj H
            exact Runs.fin (T := tb) mixed [au] (by kernel_rfl)) e_20
          obtain rfl := Option.some.inj H
          exact selvagelaw14_AllocApart.F.run tb mixed [ca [] (selvagelaw14_awake.ev e_5), bn h_6, sg_ 3 j_9, br h_11, ca [] (alloc_Homes.ev e_13), bn h_16, su j_21] rfl (by kernel_rfl)
        · have H := itF h_16 H
          obtain rfl := Option.some.inj H
          exact selvagelaw14_AllocApart.F.run tb mixed [ca [] (selvagelaw14_awake.ev e_5), bn h_6, sg_ 3 j_9, br h_11, ca [] (alloc_Homes.ev e_13), bn h_16] rfl (by kernel_rfl)
      · obtain ⟨o_25, e_26, H⟩ := bdE H
        have j_27 := Runs.loop (P := Try.prog) (N := selvagelaw14_AllocApart.F.N) (m0 := 0) (c := sub_ selvagelaw14_AllocApart.F.c [1, 1, 1, 1, 1, 0, 1, 0, 0]) (f := (selvagelaw14_AllocApart.l2 a_1 a_3 r_15)) (St := fun s_24 => ⟨[(0, .ro false 8 a_1.length (a_1.map api_Ins.c)), (2, .v (.int .i64 a_3)), (7, .sl 0 0 r_15.2 0 r_15.2), (9, .v (.int .i64 s_24))], [.arr true 30 2 r_15.2 (r_15.1.map api_Home.c)], []⟩) (xo := (fun o => match o with | Sum.inl _ => .ret | Sum.inr (_) => (.exit 0) : (Unit ⊕ Unit) → Ex)) (So := (fun o => match o with | Sum.inl s_28 => ⟨[(6, .v (.bool false))], [], []⟩ | Sum.inr (s_29) => ⟨[], [], []⟩ : (Unit ⊕ Unit) → ASt)) (by intro o; rcases o with _ | _ <;> simp) (fun s_24 z H => by
          unfold selvagelaw14_AllocApart.l2 at H
          rcases b2 (decide (s_24 < (r_15.2 : Int))) with h_30 | h_30
          · have H := itT h_30 H
            obtain ⟨r_31, e_32, H⟩ := bdE H
            rcases b2 r_31.2.2 with h_33 | h_33
            · have H := ibT h_33 H
              obtain ⟨o_34, e_35, H⟩ := bdE H
              have j_36 : Runs Try.prog selvagelaw14_AllocApart.F.N 0 (sub_ selvagelaw14_AllocApart.F.c [1, 1, 1, 1, 1, 0, 1, 0, 0, 1, 0, 0, 1, 1, 0, 0]) ⟨[(0, .ro false 8 a_1.length (a_1.map api_Ins.c)), (2, .v (.int .i64 a_3)), (7, .sl 0 0 r_15.2 0 r_15.2), (9, .v (.int .i64 s_24)), (10, .v (.int .i64 r_31.1)), (11, .v (.int .i64 r_31.2.1))], [.arr true 30 2 r_15.2 (r_15.1.map api_Home.c)], []⟩ ((fun _ => .normal : Bool → Ex) o_34) ((fun o_34 => ⟨[(0, .ro false 8 a_1.length (a_1.map api_Ins.c)), (2, .v (.int .i64 a_3)), (7, .sl 0 0 r_15.2 0 r_15.2), (9, .v (.int .i64 s_24)), (10, .v (.int .i64 r_31.1)), (11, .v (.int .i64 r_31.2.1)), (114, .v (.bool o_34))], [.arr true 30 2 r_15.2 (r_15.1.map api_Home.c)], []⟩ : Bool → ASt) o_34) := by
                clear H
                have H := e_35
                clear e_35
                obtain ⟨g_37, H⟩ := gdE H
                obtain ⟨g_38, H⟩ := gdE H
                let v_39 : api_Home := gi r_15.1 s_24
                replace H := ltD H
                rcases b2 (decide (v_39.Reg < (-1 : Int))) with h_40 | h_40
                · have H := itT h_40 H
                  obtain rfl := Option.some.inj H
                  exact Runs.fin (T := tb) mixed [pf g_37, el api_Home.c g_38, br h_40, pk (rfl : true = true), au, pk (rfl : true = true), au, pk (rfl : true = true), au, pk (rfl : true = true)] (by kernel_rfl)
                · have H := itF h_40 H
                  let v_41 : api_Home := gi r_15.1 s_24
                  replace H := ltD H
                  rcases b2 (decide (v_41.Reg ≥ a_3)) with h_42 | h_42
                  · have H := itT h_42 H
                    obtain rfl := Option.some.inj H
                    exact Runs.fin (T := tb) mixed [pf g_37, el api_Home.c g_38, br h_40, pf g_37, el api_Home.c g_38, pk (rfl : false = false), br h_42, pk (rfl : true = true), au, pk (rfl : true = true), au, pk (rfl : true = true)] (by kernel_rfl)
                  · have H := itF h_42 H
                    let v_43 : api_Home := gi r_15.1 s_24
                    replace H := ltD H
                    rcases b2 (decide (v_43.Slot < (0 : Int))) with h_44 | h_44
                    · have H := itT h_44 H
                      obtain rfl := Option.some.inj H
                      exact Runs.fin (T := tb) mixed [pf g_37, el api_Home.c g_38, br h_40, pf g_37, el api_Home.c g_38, pk (rfl : false = false), br h_42, pf g_37, el api_Home.c g_38, pk (rfl : false = false), br h_44, pk (rfl : true = true), au, pk (rfl : true = true)] (by kernel_rfl)
                    · have H := itF h_44 H
                      let v_45 : api_Home := gi r_15.1 s_24
                      replace H := ltD H
                      rcases b2 (decide (v_45.Slot ≥ (400 : Int))) with h_46 | h_46
                      · have H := itT h_46 H
                        obtain rfl := Option.some.inj H
                        exact Runs.fin (T := tb) mixed [pf g_37, el api_Home.c g_38, br h_40, pf g_37, el api_Home.c g_38, pk (rfl : false = false), br h_42, pf g_37, el api_Home.c g_38, pk (rfl : false = false), br h_44, pf g_37, el api_Home.c g_38, pk (rfl : false = false), br h_46, pk (rfl : true = true)] (by kernel_rfl)
                      · have H := itF h_46 H
                        let v_47 : api_Home := gi r_15.1 s_24
                        replace H := ltD H
                        rcases b2 (decide (v_47.Reg ≥ (0 : Int))) with h_48 | h_48
                        · have H := itT h_48 H
                          let v_49 : api_Home := gi r_15.1 s_24
                          replace H := ltD H
                          obtain rfl := Option.some.inj H
                          exact Runs.fin (T := tb) mixed [pf g_37, el api_Home.c g_38, br h_40, pf g_37, el api_Home.c g_38, pk (rfl : false = false), br h_42, pf g_37, el api_Home.c g_38, pk (rfl : false = false), br h_44, pf g_37, el api_Home.c g_38, pk (rfl : false = false), br h_46, pf g_37, el api_Home.c g_38, br h_48, pf g_37, el api_Home.c g_38, pk (rfl : true = true), pk (rfl : false = false)] (by kernel_rfl)
                        · have H := itF h_48 H
                          obtain rfl := Option.some.inj H
                          exact Runs.fin (T := tb) mixed [pf g_37, el api_Home.c g_38, br h_40, pf g_37, el api_Home.c g_38, pk (rfl : false = false), br h_42, pf g_37, el api_Home.c g_38, pk (rfl : false = false), br h_44, pf g_37, el api_Home.c g_38, pk (rfl : false = false), br h_46, pf g_37, el api_Home.c g_38, br h_48, pk (rfl : false = false), pk (rfl : false = false)] (by kernel_rfl)
              rcases b2 o_34 with h_50 | h_50
              · have H := ibT h_50 H
                obtain rfl := Option.some.inj H
                exact Runs.fin (T := tb) mixed [br h_30, ca [] (alloc_Span.ev e_32), bn h_33, sg_ 15 j_36, br h_50] (by kernel_rfl)
              · have H := ibF h_50 H
                obtain ⟨o_54, e_55, H⟩ := bdE H
                have j_56 := Runs.loop (P := Try.prog) (N := selvagelaw14_AllocApart.F.N) (m0 := 0) (c := sub_ selvagelaw14_AllocApart.F.c [1, 1, 1, 1, 1, 0, 1, 0, 0, 1, 0, 0, 1, 1, 1, 1, 0, 0]) (f := (selvagelaw14_AllocApart.l3 a_1 r_15 s_24 r_31)) (St := fun s_53 => ⟨[(0, .ro false 8 a_1.length (a_1.map api_Ins.c)), (2, .v (.int .i64 a_3)), (7, .sl 0 0 r_15.2 0 r_15.2), (9, .v (.int .i64 s_24)), (10, .v (.int .i64 r_31.1)), (11, .v (.int .i64 r_31.2.1)), (13, .v (.int .i64 s_53))], [.arr true 30 2 r_15.2 (r_15.1.map api_Home.c)], []⟩) (xo := (fun o => match o with | Sum.inl _ => .ret | Sum.inr (_) => (.exit 2) : (Unit ⊕ Unit) → Ex)) (So := (fun o => match o with | Sum.inl s_57 => ⟨[(6, .v (.bool false))], [], []⟩ | Sum.inr (s_58) => ⟨[(0, .ro false 8 a_1.length (a_1.map api_Ins.c)), (2, .v (.int .i64 a_3)), (7, .sl 0 0 r_15.2 0 r_15.2), (9, .v (.int .i64 s_24))], [.arr true 30 2 r_15.2 (r_15.1.map api_Home.c)], []⟩ : (Unit ⊕ Unit) → ASt)) (by intro o; rcases o with _ | _ <;> simp) (fun s_53 z H => by
                  unfold selvagelaw14_AllocApart.l3 at H
                  rcases b2 (decide (s_53 < s_24)) with h_59 | h_59
                  · have H := itT h_59 H
                    obtain ⟨r_60, e_61, H⟩ := bdE H
                    rcases b2 r_60.2.2 with h_62 | h_62
                    · have H := ibT h_62 H
                      obtain ⟨o_63, e_64, H⟩ := bdE H
                      have j_65 : Runs Try.prog selvagelaw14_AllocApart.F.N 0 (sub_ selvagelaw14_AllocApart.F.c [1, 1, 1, 1, 1, 0, 1, 0, 0, 1, 0, 0, 1, 1, 1, 1, 0, 0, 1, 0, 0, 1, 1, 0]) ⟨[(0, .ro false 8 a_1.length (a_1.map api_Ins.c)), (2, .v (.int .i64 a_3)), (7, .sl 0 0 r_15.2 0 r_15.2), (9, .v (.int .i64 s_24)), (10, .v (.int .i64 r_31.1)), (11, .v (.int .i64 r_31.2.1)), (13, .v (.int .i64 s_53)), (14, .v (.int .i64 r_60.1)), (15, .v (.int .i64 r_60.2.1))], [.arr true 30 2 r_15.2 (r_15.1.map api_Home.c)], []⟩ ((fun _ => .normal : Bool → Ex) o_63) ((fun o_63 => ⟨[(0, .ro false 8 a_1.length (a_1.map api_Ins.c)), (2, .v (.int .i64 a_3)), (7, .sl 0 0 r_15.2 0 r_15.2), (9, .v (.int .i64 s_24)), (10, .v (.int .i64 r_31.1)), (11, .v (.int .i64 r_31.2.1)), (13, .v (.int .i64 s_53)), (186, .v (.bool o_63))], [.arr true 30 2 r_15.2 (r_15.1.map api_Home.c)], []⟩ : Bool → ASt) o_63) := by
                        clear H
                        have H := e_64
                        clear e_64
                        obtain ⟨g_66, H⟩ := gdE H
                        obtain ⟨g_67, H⟩ := gdE H
                        let v_68 : api_Home := gi r_15.1 s_24
                        replace H := ltD H
                        rcases b2 (decide (v_68.Reg < (0 : Int))) with h_69 | h_69
                        · have H := itT h_69 H
                          obtain ⟨g_70, H⟩ := gdE H
                          obtain ⟨g_71, H⟩ := gdE H
                          let v_72 : api_Home := gi r_15.1 s_53
                          replace H := ltD H
                          rcases b2 (decide (v_72.Reg < (0 : Int))) with h_73 | h_73
                          · have H := itT h_73 H
                            let v_74 : api_Home := gi r_15.1 s_24
                            replace H := ltD H
                            let v_75 : api_Home := gi r_15.1 s_53
                            replace H := ltD H
                            rcases b2 (decide (v_74.Slot = v_75.Slot)) with h_76 | h_76
                            · have H := itT h_76 H
                              obtain rfl := Option.some.inj H
                              exact Runs.fin (T := tb) mixed [pf g_66, el api_Home.c g_67, br h_69, pf g_70, el api_Home.c g_71, pk (rfl : true = true), br h_73, pf g_66, el api_Home.c g_67, pf g_70, el api_Home.c g_71, pk (rfl : true = true), br h_76, pk (rfl : true = true)] (by kernel_rfl)
                            · have H := itF h_76 H
                              let v_77 : api_Home := gi r_15.1 s_24
                              replace H := ltD H
                              rcases b2 (decide (v_77.Reg ≥ (0 : Int))) with h_78 | h_78
                              · have H := itT h_78 H
                                let v_79 : api_Home := gi r_15.1 s_24
                                replace H := ltD H
                                let v_80 : api_Home := gi r_15.1 s_53
                                replace H := ltD H
                                rcases b2 (decide (v_79.Reg = v_80.Reg)) with h_81 | h_81
                                · have H := itT h_81 H
                                  rcases b2 (decide (r_60.1 ≤ r_31.2.1)) with h_82 | h_82
                                  · have H := itT h_82 H
                                    obtain rfl := Option.some.inj H
                                    exact Runs.fin (T := tb) mixed [pf g_66, el api_Home.c g_67, br h_69, pf g_70, el api_Home.c g_71, pk (rfl : true = true), br h_73, pf g_66, el api_Home.c g_67, pf g_70, el api_Home.c g_71, pk (rfl : true = true), br h_76, pf g_66, el api_Home.c g_67, br h_78, pf g_66, el api_Home.c g_67, pf g_70, el api_Home.c g_71, pk (rfl : true = true), br h_81, pk (rfl : true = true), br h_82, pk (rfl : true = true), pk (rfl : false = false)] (by kernel_rfl)
                                  · have H := itF h_82 H
                                    obtain rfl := Option.some.inj H
                                    exact Runs.fin (T := tb) mixed [pf g_66, el api_Home.c g_67, br h_69, pf g_70, el api_Home.c g_71, pk (rfl : true = true), br h_73, pf g_66, el api_Home.c g_67, pf g_70, el api_Home.c g_71, pk (rfl : true = true), br h_76, pf g_66, el api_Home.c g_67, br h_78, pf g_66, el api_Home.c g_67, pf g_70, el api_Home.c g_71, pk (rfl : true = true), br h_81, pk (rfl : true = true), br h_82, pk (rfl : false = false), pk (rfl : false = false)] (by kernel_rfl)
                                · have H := itF h_81 H
                                  obtain rfl := Option.some.inj H
                                  exact Runs.fin (T := tb) mixed [pf g_66, el api_Home.c g_67, br h_69, pf g_70, el api_Home.c g_71, pk (rfl : true = true), br h_73, pf g_66, el api_Home.c g_67, pf g_70, el api_Home.c g_71, pk (rfl : true = true), br h_76, pf g_66, el api_Home.c g_67, br h_78, pf g_66, el api_Home.c g_67, pf g_70, el api_Home.c g_71, pk (rfl : true = true), br h_81, pk (rfl : false = false), au, pk (rfl : false = false), pk (rfl : false = false)] (by kernel_rfl)
                              · have H := itF h_78 H
                                obtain rfl := Option.some.inj H
                                exact Runs.fin (T := tb) mixed [pf g_66, el api_Home.c g_67, br h_69, pf g_70, el api_Home.c g_71, pk (rfl : true = true), br h_73, pf g_66, el api_Home.c g_67, pf g_70, el api_Home.c g_71, pk (rfl : true = true), br h_76, pf g_66, el api_Home.c g_67, br h_78, pk (rfl : false = false), au, pk (rfl : false = false), au, pk (rfl : false = false), pk (rfl : false = false)] (by kernel_rfl)
                          · have H := itF h_73 H
                            let v_83 : api_Home := gi r_15.1 s_24
                            replace H := ltD H
                            rcases b2 (decide (v_83.Reg ≥ (0 : Int))) with h_84 | h_84
                            · have H := itT h_84 H
                              let v_85 : api_Home := gi r_15.1 s_24
                              replace H := ltD H
                              let v_86 : api_Home := gi r_15.1 s_53
                              replace H := ltD H
                              rcases b2 (decide (v_85.Reg = v_86.Reg)) with h_87 | h_87
                              · have H := itT h_87 H
                                rcases b2 (decide (r_60.1 ≤ r_31.2.1)) with h_88 | h_88
                                · have H := itT h_88 H
                                  obtain rfl := Option.some.inj H
                                  exact Runs.fin (T := tb) mixed [pf g_66, el api_Home.c g_67, br h_69, pf g_70, el api_Home.c g_71, pk (rfl : true = true), br h_73, pk (rfl : false = false), au, pf g_66, el api_Home.c g_67, br h_84, pf g_66, el api_Home.c g_67, pf g_70, el api_Home.c g_71, pk (rfl : true = true), br h_87, pk (rfl : true = true), br h_88, pk (rfl : true = true), pk (rfl : false = false)] (by kernel_rfl)
                                · have H := itF h_88 H
                                  obtain rfl := Option.some.inj H
                                  exact Runs.fin (T := tb) mixed [pf g_66, el api_Home.c g_67, br h_69, pf g_70, el api_Home.c g_71, pk (rfl : true = true), br h_73, pk (rfl : false = false), au, pf g_66, el api_Home.c g_67, br h_84, pf g_66, el api_Home.c g_67, pf g_70, el api_Home.c g_71, pk (rfl : true = true), br h_87, pk (rfl : true = true), br h_88, pk (rfl : false = false), pk (rfl : false = false)] (by kernel_rfl)
                              · have H := itF h_87 H
                                obtain rfl := Option.some.inj H
                                exact Runs.fin (T := tb) mixed [pf g_66, el api_Home.c g_67, br h_69, pf g_70, el api_Home.c g_71, pk (rfl : true = true), br h_73, pk (rfl : false = false), au, pf g_66, el api_Home.c g_67, br h_84, pf g_66, el api_Home.c g_67, pf g_70, el api_Home.c g_71, pk (rfl : true = true), br h_87, pk (rfl : false = false), au, pk (rfl : false = false), pk (rfl : false = false)] (by kernel_rfl)
                            · have H := itF h_84 H
                              obtain rfl := Option.some.inj H
                              exact Runs.fin (T := tb) mixed [pf g_66, el api_Home.c g_67, br h_69, pf g_70, el api_Home.c g_71, pk (rfl : true = true), br h_73, pk (rfl : false = false), au, pf g_66, el api_Home.c g_67, br h_84, pk (rfl : false = false), au, pk (rfl : false = false), au, pk (rfl : false = false), pk (rfl : false = false)] (by kernel_rfl)
                        · have H := itF h_69 H
                          let v_89 : api_Home := gi r_15.1 s_24
                          replace H := ltD H
                          rcases b2 (decide (v_89.Reg ≥ (0 : Int))) with h_90 | h_90
                          · have H := itT h_90 H
                            let v_91 : api_Home := gi r_15.1 s_24
                            replace H := ltD H
                            obtain ⟨g_92, H⟩ := gdE H
                            obtain ⟨g_93, H⟩ := gdE H
                            let v_94 : api_Home := gi r_15.1 s_53
                            replace H := ltD H
                            rcases b2 (decide (v_91.Reg = v_94.Reg)) with h_95 | h_95
                            · have H := itT h_95 H
                              rcases b2 (decide (r_60.1 ≤ r_31.2.1)) with h_96 | h_96
                              · have H := itT h_96 H
                                obtain rfl := Option.some.inj H
                                exact Runs.fin (T := tb) mixed [pf g_66, el api_Home.c g_67, br h_69, pk (rfl : false = false), au, pk (rfl : false = false), au, pf g_66, el api_Home.c g_67, br h_90, pf g_66, el api_Home.c g_67, pf g_92, el api_Home.c g_93, pk (rfl : true = true), br h_95, pk (rfl : true = true), br h_96, pk (rfl : true = true), pk (rfl : false = false)] (by kernel_rfl)
                              · have H := itF h_96 H
                                obtain rfl := Option.some.inj H
                                exact Runs.fin (T := tb) mixed [pf g_66, el api_Home.c g_67, br h_69, pk (rfl : false = false), au, pk (rfl : false = false), au, pf g_66, el api_Home.c g_67, br h_90, pf g_66, el api_Home.c g_67, pf g_92, el api_Home.c g_93, pk (rfl : true = true), br h_95, pk (rfl : true = true), br h_96, pk (rfl : false = false), pk (rfl : false = false)] (by kernel_rfl)
                            · have H := itF h_95 H
                              obtain rfl := Option.some.inj H
                              exact Runs.fin (T := tb) mixed [pf g_66, el api_Home.c g_67, br h_69, pk (rfl : false = false), au, pk (rfl : false = false), au, pf g_66, el api_Home.c g_67, br h_90, pf g_66, el api_Home.c g_67, pf g_92, el api_Home.c g_93, pk (rfl : true = true), br h_95, pk (rfl : false = false), au, pk (rfl : false = false), pk (rfl : false = false)] (by kernel_rfl)
                          · have H := itF h_90 H
                            obtain rfl := Option.some.inj H
                            exact Runs.fin (T := tb) mixed [pf g_66, el api_Home.c g_67, br h_69, pk (rfl : false = false), au, pk (rfl : false = false), au, pf g_66, el api_Home.c g_67, br h_90, pk (rfl : false = false), au, pk (rfl : false = false), au, pk (rfl : false = false), pk (rfl : false = false)] (by kernel_rfl)
                      rcases b2 o_63 with h_97 | h_97
                      · have H := ibT h_97 H
                        obtain rfl := Option.some.inj H
                        exact Runs.fin (T := tb) mixed [br h_59, ca [] (alloc_Span.ev e_61), bn h_62, sg_ 22 j_65, br h_97] (by kernel_rfl)
                      · have H := ibF h_97 H
                        obtain rfl := Option.some.inj H
                        exact Runs.fin (T := tb) mixed [br h_59, ca [] (alloc_Span.ev e_61), bn h_62, sg_ 22 j_65, br h_97] (by kernel_rfl)
                    · have H := ibF h_62 H
                      obtain rfl := Option.some.inj H
                      exact Runs.fin (T := tb) mixed [br h_59, ca [] (alloc_Span.ev e_61), bn h_62] (by kernel_rfl)
                  · have H := itF h_59 H
                    obtain rfl := Option.some.inj H
                    exact Runs.fin (T := tb) mixed [br h_59] (by kernel_rfl)) e_55
                rcases o_54 with s_57 | s_58
                · obtain rfl := Option.some.inj H
                  exact Runs.fin (T := tb) mixed [br h_30, ca [] (alloc_Span.ev e_32), bn h_33, sg_ 15 j_36, br h_50, su j_56] (by kernel_rfl)
                · obtain rfl := Option.some.inj H
                  exact Runs.fin (T := tb) mixed [br h_30, ca [] (alloc_Span.ev e_32), bn h_33, sg_ 15 j_36, br h_50, su j_56] (by kernel_rfl)
            · have H := ibF h_33 H
              obtain ⟨g_98, H⟩ := gdE H
              obtain ⟨g_99, H⟩ := gdE H
              let v_100 : api_Home := gi r_15.1 s_24
              replace H := ltD H
              rcases b2 (decide (v_100.Reg = (-1 : Int))) with h_101 | h_101
              · have H := itT h_101 H
                let v_102 : api_Home := gi r_15.1 s_24
                replace H := ltD H
                rcases b2 (decide (v_102.Slot = (-1 : Int))) with h_103 | h_103
                · have H := itT h_103 H
                  obtain rfl := Option.some.inj H
                  exact Runs.fin (T := tb) mixed [br h_30, ca [] (alloc_Span.ev e_32), bn h_33, pf g_98, el api_Home.c g_99, bn h_101, pf g_98, el api_Home.c g_99, pk (rfl : false = false), bn h_103] (by kernel_rfl)
                · have H := itF h_103 H
                  obtain rfl := Option.some.inj H
                  exact Runs.fin (T := tb) mixed [br h_30, ca [] (alloc_Span.ev e_32), bn h_33, pf g_98, el api_Home.c g_99, bn h_101, pf g_98, el api_Home.c g_99, pk (rfl : false = false), bn h_103] (by kernel_rfl)
              · have H := itF h_101 H
                obtain rfl := Option.some.inj H
                exact Runs.fin (T := tb) mixed [br h_30, ca [] (alloc_Span.ev e_32), bn h_33, pf g_98, el api_Home.c g_99, bn h_101, pk (rfl : true = true), au] (by kernel_rfl)
          · have H := itF h_30 H
            obtain rfl := Option.some.inj H
            exact Runs.fin (T := tb) mixed [br h_30] (by kernel_rfl)) e_26
        rcases o_25 with s_28 | s_29
        · obtain rfl := Option.some.inj H
          exact selvagelaw14_AllocApart.F.run tb mixed [ca [] (selvagelaw14_awake.ev e_5), bn h_6, sg_ 3 j_9, br h_11, ca [] (alloc_Homes.ev e_13), au, su j_27] rfl (by kernel_rfl)
        · obtain rfl := Option.some.inj H
          exact selvagelaw14_AllocApart.F.run tb mixed [ca [] (selvagelaw14_awake.ev e_5), bn h_6, sg_ 3 j_9, br h_11, ca [] (alloc_Homes.ev e_13), au, su j_27] rfl (by kernel_rfl)
  · have H := ibF h_6 H
    obtain rfl := Option.some.inj H
    exact selvagelaw14_AllocApart.F.run tb mixed [ca [] (selvagelaw14_awake.ev e_5), bn h_6] rfl (by kernel_rfl)
end Go.Proofs.Ytgjibbicplbgbaa

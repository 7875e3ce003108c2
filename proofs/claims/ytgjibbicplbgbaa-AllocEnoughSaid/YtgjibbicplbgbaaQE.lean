/- QE: several texts in one. -/
import Derived.Test.YtgjibbicplbgbaaQA
import Derived.Test.YtgjibbicplbgbaaQB
set_option linter.unusedVariables false
set_option linter.unusedSimpArgs false
set_option linter.unusedSectionVars false
set_option maxRecDepth 100000
namespace Go.Proofs.Ytgjibbicplbgbaa
open Go Go.RowKit Go.Proofs Go.Proofs.Ytgjibbicplbgbaa.X
open Go.Proofs.Ytgjibbicplbgbaa.B (wr sb feq fls qf flt i2f aget aset isnan)
noncomputable def selvagelaw14_AllocEnough.F : FI Try.prog 7 := ⟨Try.f7, 103, (Try.f7.body.getD .skip), Try.f7.results.toList, Try.call7, Try.func7, by kernel_rfl, by kernel_rfl, by kernel_rfl⟩
def selvagelaw14_AllocEnough.l2 (s_29 : Unit) : Option (Unit ⊕ Unit) :=
  some (Sum.inr ())
def selvagelaw14_AllocEnough.l3 (s_35 : Unit) : Option (Unit ⊕ Unit) :=
  some (Sum.inr ())
def selvagelaw14_AllocEnough.l1 (a_1 : List api_Ins) (a_3 : Int) (s_21 : Int) : Option (Int ⊕ (Unit ⊕ Unit)) :=
  if s_21 < (a_1.length : Int) then ((B.loop selvagelaw14_AllocEnough.l2 (() : Unit)).bind fun o_30 => if (0 : Int) > a_3 then (some (Sum.inr (Sum.inl ()))) else (some (Sum.inl (wr .i64 (s_21 + (1 : Int)))))) else (some (Sum.inr (Sum.inr ())))
def selvagelaw14_AllocEnough.l5 (a_1 : List api_Ins) (r_17 : (List api_Home) × Nat) (s_41 : Int) (s_50 : Int × Int) : Option ((Int × Int) ⊕ Int) :=
  if s_50.2 < (r_17.2 : Int) then ((alloc_Span.m a_1 s_50.2).bind fun r_55 => (if r_55.2.2 = true then (if r_55.1 ≤ s_41 then (some ((decide (s_41 ≤ r_55.2.1)) : Bool)) else (some (false : Bool))) else (some (false : Bool)) : Option Bool).bind fun o_57 => if o_57 = true then (letC (wr .i64 (s_50.1 + (1 : Int))) fun v_63 => letC (wr .i64 (s_50.2 + (1 : Int))) fun v_64 => some (Sum.inl (v_63, v_64))) else (letC (wr .i64 (s_50.2 + (1 : Int))) fun v_65 => some (Sum.inl (s_50.1, v_65)))) else (some (Sum.inr s_50.1))
def selvagelaw14_AllocEnough.l6 (a_1 : List api_Ins) (r_17 : (List api_Home) × Nat) (s_69 : Int) : Option (Int ⊕ (Unit ⊕ Unit)) :=
  if s_69 < (r_17.2 : Int) then ((alloc_Span.m a_1 s_69).bind fun r_76 => if r_76.2.2 = true then (if 0 ≤ s_69 ∧ s_69 < (r_17.2 : Int) then (if 0 ≤ s_69 ∧ s_69 < (r_17.1.length : Int) then (letC (gi r_17.1 s_69) fun v_81 => if v_81.Reg < (0 : Int) then (some (Sum.inr (Sum.inl ()))) else (some (Sum.inl (wr .i64 (s_69 + (1 : Int)))))) else none) else none) else (some (Sum.inl (wr .i64 (s_69 + (1 : Int)))))) else (some (Sum.inr (Sum.inr ())))
def selvagelaw14_AllocEnough.l4 (a_1 : List api_Ins) (a_3 : Int) (r_17 : (List api_Home) × Nat) (s_41 : Int) : Option (Int ⊕ (Unit ⊕ Unit)) :=
  if s_41 < (a_1.length : Int) then ((B.loop (selvagelaw14_AllocEnough.l5 a_1 r_17 s_41) ((0, 0) : Int × Int)).bind fun o_51 => if o_51 > a_3 then (some (Sum.inr (Sum.inl ()))) else (some (Sum.inl (wr .i64 (s_41 + (1 : Int)))))) else (some (Sum.inr (Sum.inr ())))
def selvagelaw14_AllocEnough.m (a_1 : List api_Ins) (a_2 : List api_Loc) (a_3 : Int) : Option (Bool) :=
  (selvagelaw14_awake.m).bind fun r_4 => if r_4 = true then ((if (a_1.length : Int) > (120 : Int) then (some (true : Bool)) else (if (a_2.length : Int) > (16 : Int) then (some (true : Bool)) else (if a_3 < (1 : Int) then (some (true : Bool)) else (some ((decide (a_3 > (8 : Int))) : Bool)))) : Option Bool).bind fun o_7 => if o_7 = true then (some true) else ((alloc_Homes.m a_1 a_2 a_3).bind fun r_14 => match r_14 with | Sum.inl r_16 => (if r_16 = (0 : Int) then ((B.loop (selvagelaw14_AllocEnough.l1 a_1 a_3) (0 : Int)).bind fun o_22 => match o_22 with | Sum.inl s_25 => (some true) | Sum.inr (s_26) => ((B.loop selvagelaw14_AllocEnough.l3 (() : Unit)).bind fun o_36 => some true)) else (some true)) | Sum.inr (r_17) => ((B.loop (selvagelaw14_AllocEnough.l4 a_1 a_3 r_17) (0 : Int)).bind fun o_42 => match o_42 with | Sum.inl s_45 => (some true) | Sum.inr (s_46) => ((B.loop (selvagelaw14_AllocEnough.l6 a_1 r_17) (0 : Int)).bind fun o_70 => match o_70 with | Sum.inl s_73 => (some false) | Sum.inr (s_74) => (some true))))) else (some false)
noncomputable def selvagelaw14_AllocEnough.o (a_1 : List api_Ins) (a_2 : List api_Loc) (a_3 : Int) (r : Bool) : Out := .ret (.v (.bool r)) [] []
theorem selvagelaw14_AllocEnough.ev {a_1 : List api_Ins} {a_2 : List api_Loc} {a_3 : Int} {r : Bool} (H : selvagelaw14_AllocEnough.m a_1 a_2 a_3 = some r) : Ev Try.prog 7 [.ro false 8 a_1.length (a_1.map api_Ins.c), .ro false 2 a_2.length (a_2.map api_Loc.c), .v (.int .i64 a_3)] [] [] (selvagelaw14_AllocEnough.o a_1 a_2 a_3 r) := by
  unfold selvagelaw14_AllocEnough.m at H
  obtain ⟨r_4, e_5, H⟩ := bdE H
  rcases b2 r_4 with h_6 | h_6
  · have H := ibT h_6 H
    obtain ⟨o_7, e_8, H⟩ := bdE H
    have j_9 : Runs Try.prog selvagelaw14_AllocEnough.F.N 0 (sub_ selvagelaw14_AllocEnough.F.c [1, 1, 0, 0]) ⟨[(0, .ro false 8 a_1.length (a_1.map api_Ins.c)), (1, .ro false 2 a_2.length (a_2.map api_Loc.c)), (2, .v (.int .i64 a_3))], [], []⟩ ((fun _ => .normal : Bool → Ex) o_7) ((fun o_7 => ⟨[(0, .ro false 8 a_1.length (a_1.map api_Ins.c)), (1, .ro false 2 a_2.length (a_2.map api_Loc.c)), (2, .v (.int .i64 a_3)), (36, .v (.bool o_7))], [], []⟩ : Bool → ASt) o_7) := by
      clear H
      have H := e_8
      clear e_8
      rcases b2 (decide ((a_1.length : Int) > (120 : Int))) with h_10 | h_10
      · have H := itT h_10 H
        obtain rfl := Option.some.inj H
        exact Runs.fin (T := tb) mixed [br h_10, pk (rfl : true = true), au, pk (rfl : true = true), au, pk (rfl : true = true)] (by kernel_rfl)
      · have H := itF h_10 H
        rcases b2 (decide ((a_2.length : Int) > (16 : Int))) with h_11 | h_11
        · have H := itT h_11 H
          obtain rfl := Option.some.inj H
          exact Runs.fin (T := tb) mixed [br h_10, pk (rfl : false = false), br h_11, pk (rfl : true = true), au, pk (rfl : true = true)] (by kernel_rfl)
        · have H := itF h_11 H
          rcases b2 (decide (a_3 < (1 : Int))) with h_12 | h_12
          · have H := itT h_12 H
            obtain rfl := Option.some.inj H
            exact Runs.fin (T := tb) mixed [br h_10, pk (rfl : false = false), br h_11, pk (rfl : false = false), br h_12, pk (rfl : true = true)] (by kernel_rfl)
          · have H := itF h_12 H
            obtain rfl := Option.some.inj H
            exact Runs.fin (T := tb) mixed [br h_10, pk (rfl : false = false), br h_11, pk (rfl : false = false), br h_12, pk (rfl : false = false)] (by kernel_rfl)
    rcases b2 o_7 with h_13 | h_13
    · have H := ibT h_13 H
      obtain rfl := Option.some.inj H
      exact selvagelaw14_AllocEnough.F.run tb mixed [ca [] (selvagelaw14_awake.ev e_5), bn h_6, sg_ 3 j_9, br h_13] rfl (by kernel_rfl)
    · have H := ibF h_13 H
      obtain ⟨r_14, e_15, H⟩ := bdE H
      rcases r_14 with r_16 | r_17
      · rcases b2 (decide (r_16 = (0 : Int))) with h_18 | h_18
        · have H := itT h_18 H
          obtain ⟨o_22, e_23, H⟩ := bdE H
          have j_24 := Runs.loop (P := Try.prog) (N := selvagelaw14_AllocEnough.F.N) (m0 := 0) (c := sub_ selvagelaw14_AllocEnough.F.c [1, 1, 1, 1, 1, 0, 1, 0, 0]) (f := (selvagelaw14_AllocEnough.l1 a_1 a_3)) (St := fun s_21 => ⟨[(0, .ro false 8 a_1.length (a_1.map api_Ins.c)), (2, .v (.int .i64 a_3)), (7, .v (.slice none 0 0)), (9, .v (.int .i64 s_21))], [], []⟩) (xo := (fun o => match o with | Sum.inl _ => .ret | Sum.inr (_) => (.exit 0) : (Unit ⊕ Unit) → Ex)) (So := (fun o => match o with | Sum.inl s_25 => ⟨[(6, .v (.bool true))], [], []⟩ | Sum.inr (s_26) => ⟨[(0, .ro false 8 a_1.length (a_1.map api_Ins.c)), (7, .v (.slice none 0 0))], [], []⟩ : (Unit ⊕ Unit) → ASt)) (by intro o; rcases o with _ | _ <;> simp) (fun s_21 z H => by
            unfold selvagelaw14_AllocEnough.l1 at H
            rcases b2 (decide (s_21 < (a_1.length : Int))) with h_27 | h_27
            · have H := itT h_27 H
              obtain ⟨o_30, e_31, H⟩ := bdE H
              have j_32 := Runs.loop (P := Try.prog) (N := selvagelaw14_AllocEnough.F.N) (m0 := 0) (c := sub_ selvagelaw14_AllocEnough.F.c [1, 1, 1, 1, 1, 0, 1, 0, 0, 1, 0, 0, 1, 0, 1, 0, 0]) (f := selvagelaw14_AllocEnough.l2) (St := fun s_29 => ⟨[(0, .ro false 8 a_1.length (a_1.map api_Ins.c)), (2, .v (.int .i64 a_3)), (7, .v (.slice none 0 0)), (9, .v (.int .i64 s_21)), (10, .v (.int .i64 0)), (11, .v (.int .i64 0))], [], []⟩) (xo := (fun _ => (.exit 2) : Unit → Ex)) (So := (fun o_30 => ⟨[(0, .ro false 8 a_1.length (a_1.map api_Ins.c)), (2, .v (.int .i64 a_3)), (7, .v (.slice none 0 0)), (9, .v (.int .i64 s_21)), (10, .v (.int .i64 0))], [], []⟩ : Unit → ASt)) (by intro o; simp) (fun s_29 z H => by
                unfold selvagelaw14_AllocEnough.l2 at H
                obtain rfl := Option.some.inj H
                exact Runs.fin (T := tb) mixed [au] (by kernel_rfl)) e_31
              rcases b2 (decide ((0 : Int) > a_3)) with h_33 | h_33
              · have H := itT h_33 H
                obtain rfl := Option.some.inj H
                exact Runs.fin (T := tb) mixed [br h_27, su j_32, br h_33] (by kernel_rfl)
              · have H := itF h_33 H
                obtain rfl := Option.some.inj H
                exact Runs.fin (T := tb) mixed [br h_27, su j_32, br h_33] (by kernel_rfl)
            · have H := itF h_27 H
              obtain rfl := Option.some.inj H
              exact Runs.fin (T := tb) mixed [br h_27] (by kernel_rfl)) e_23
          rcases o_22 with s_25 | s_26
          · obtain rfl := Option.some.inj H
            exact selvagelaw14_AllocEnough.F.run tb mixed [ca [] (selvagelaw14_awake.ev e_5), bn h_6, sg_ 3 j_9, br h_13, ca [] (alloc_Homes.ev e_15), bn h_18, su j_24] rfl (by kernel_rfl)
          · obtain ⟨o_36, e_37, H⟩ := bdE H
            have j_38 := Runs.loop (P := Try.prog) (N := selvagelaw14_AllocEnough.F.N) (m0 := 0) (c := sub_ selvagelaw14_AllocEnough.F.c [1, 1, 1, 1, 1, 1, 0, 1, 0, 0]) (f := selvagelaw14_AllocEnough.l3) (St := fun s_35 => ⟨[(0, .ro false 8 a_1.length (a_1.map api_Ins.c)), (7, .v (.slice none 0 0)), (15, .v (.int .i64 0))], [], []⟩) (xo := (fun _ => (.exit 4) : Unit → Ex)) (So := (fun o_36 => ⟨[], [], []⟩ : Unit → ASt)) (by intro o; simp) (fun s_35 z H => by
              unfold selvagelaw14_AllocEnough.l3 at H
              obtain rfl := Option.some.inj H
              exact Runs.fin (T := tb) mixed [au] (by kernel_rfl)) e_37
            obtain rfl := Option.some.inj H
            exact selvagelaw14_AllocEnough.F.run tb mixed [ca [] (selvagelaw14_awake.ev e_5), bn h_6, sg_ 3 j_9, br h_13, ca [] (alloc_Homes.ev e_15), bn h_18, su j_24, su j_38] rfl (by kernel_rfl)
        · have H := itF h_18 H
          obtain rfl := Option.some.inj H
          exact selvagelaw14_AllocEnough.F.run tb mixed [ca [] (selvagelaw14_awake.ev e_5), bn h_6, sg_ 3 j_9, br h_13, ca [] (alloc_Homes.ev e_15), bn h_18] rfl (by kernel_rfl)
      · obtain ⟨o_42, e_43, H⟩ := bdE H
        have j_44 := Runs.loop (P := Try.prog) (N := selvagelaw14_AllocEnough.F.N) (m0 := 0) (c := sub_ selvagelaw14_AllocEnough.F.c [1, 1, 1, 1, 1, 0, 1, 0, 0]) (f := (selvagelaw14_AllocEnough.l4 a_1 a_3 r_17)) (St := fun s_41 => ⟨[(0, .ro false 8 a_1.length (a_1.map api_Ins.c)), (2, .v (.int .i64 a_3)), (7, .sl 0 0 r_17.2 0 r_17.2), (9, .v (.int .i64 s_41))], [.arr true 30 2 r_17.2 (r_17.1.map api_Home.c)], []⟩) (xo := (fun o => match o with | Sum.inl _ => .ret | Sum.inr (_) => (.exit 0) : (Unit ⊕ Unit) → Ex)) (So := (fun o => match o with | Sum.inl s_45 => ⟨[(6, .v (.bool true))], [], []⟩ | Sum.inr (s_46) => ⟨[(0, .ro false 8 a_1.length (a_1.map api_Ins.c)), (7, .sl 0 0 r_17.2 0 r_17.2)], [.arr true 30 2 r_17.2 (r_17.1.map api_Home.c)], []⟩ : (Unit ⊕ Unit) → ASt)) (by intro o; rcases o with _ | _ <;> simp) (fun s_41 z H => by
          unfold selvagelaw14_AllocEnough.l4 at H
          rcases b2 (decide (s_41 < (a_1.length : Int))) with h_47 | h_47
          · have H := itT h_47 H
            obtain ⟨o_51, e_52, H⟩ := bdE H
            have j_53 := Runs.loop (P := Try.prog) (N := selvagelaw14_AllocEnough.F.N) (m0 := 0) (c := sub_ selvagelaw14_AllocEnough.F.c [1, 1, 1, 1, 1, 0, 1, 0, 0, 1, 0, 0, 1, 0, 1, 0, 0]) (f := (selvagelaw14_AllocEnough.l5 a_1 r_17 s_41)) (St := fun s_50 => ⟨[(0, .ro false 8 a_1.length (a_1.map api_Ins.c)), (2, .v (.int .i64 a_3)), (7, .sl 0 0 r_17.2 0 r_17.2), (9, .v (.int .i64 s_41)), (10, .v (.int .i64 s_50.1)), (11, .v (.int .i64 s_50.2))], [.arr true 30 2 r_17.2 (r_17.1.map api_Home.c)], []⟩) (xo := (fun _ => (.exit 2) : Int → Ex)) (So := (fun o_51 => ⟨[(0, .ro false 8 a_1.length (a_1.map api_Ins.c)), (2, .v (.int .i64 a_3)), (7, .sl 0 0 r_17.2 0 r_17.2), (9, .v (.int .i64 s_41)), (10, .v (.int .i64 o_51))], [.arr true 30 2 r_17.2 (r_17.1.map api_Home.c)], []⟩ : Int → ASt)) (by intro o; simp) (fun s_50 z H => by
              unfold selvagelaw14_AllocEnough.l5 at H
              rcases b2 (decide (s_50.2 < (r_17.2 : Int))) with h_54 | h_54
              · have H := itT h_54 H
                obtain ⟨r_55, e_56, H⟩ := bdE H
                obtain ⟨o_57, e_58, H⟩ := bdE H
                have j_59 : Runs Try.prog selvagelaw14_AllocEnough.F.N 0 (sub_ selvagelaw14_AllocEnough.F.c [1, 1, 1, 1, 1, 0, 1, 0, 0, 1, 0, 0, 1, 0, 1, 0, 0, 1, 0, 0, 1, 0]) ⟨[(0, .ro false 8 a_1.length (a_1.map api_Ins.c)), (2, .v (.int .i64 a_3)), (7, .sl 0 0 r_17.2 0 r_17.2), (9, .v (.int .i64 s_41)), (10, .v (.int .i64 s_50.1)), (11, .v (.int .i64 s_50.2)), (12, .v (.int .i64 r_55.1)), (13, .v (.int .i64 r_55.2.1)), (14, .v (.bool r_55.2.2))], [.arr true 30 2 r_17.2 (r_17.1.map api_Home.c)], []⟩ ((fun _ => .normal : Bool → Ex) o_57) ((fun o_57 => ⟨[(0, .ro false 8 a_1.length (a_1.map api_Ins.c)), (2, .v (.int .i64 a_3)), (7, .sl 0 0 r_17.2 0 r_17.2), (9, .v (.int .i64 s_41)), (10, .v (.int .i64 s_50.1)), (11, .v (.int .i64 s_50.2)), (75, .v (.bool o_57))], [.arr true 30 2 r_17.2 (r_17.1.map api_Home.c)], []⟩ : Bool → ASt) o_57) := by
                  clear H
                  have H := e_58
                  clear e_58
                  rcases b2 r_55.2.2 with h_60 | h_60
                  · have H := ibT h_60 H
                    rcases b2 (decide (r_55.1 ≤ s_41)) with h_61 | h_61
                    · have H := itT h_61 H
                      obtain rfl := Option.some.inj H
                      exact Runs.fin (T := tb) mixed [br h_60, pk (rfl : true = true), br h_61, pk (rfl : true = true)] (by kernel_rfl)
                    · have H := itF h_61 H
                      obtain rfl := Option.some.inj H
                      exact Runs.fin (T := tb) mixed [br h_60, pk (rfl : true = true), br h_61, pk (rfl : false = false)] (by kernel_rfl)
                  · have H := ibF h_60 H
                    obtain rfl := Option.some.inj H
                    exact Runs.fin (T := tb) mixed [br h_60, pk (rfl : false = false), au, pk (rfl : false = false)] (by kernel_rfl)
                rcases b2 o_57 with h_62 | h_62
                · have H := ibT h_62 H
                  let v_63 : Int := wr .i64 (s_50.1 + (1 : Int))
                  replace H := ltD H
                  let v_64 : Int := wr .i64 (s_50.2 + (1 : Int))
                  replace H := ltD H
                  obtain rfl := Option.some.inj H
                  exact Runs.fin (T := tb) mixed [br h_54, ca [] (alloc_Span.ev e_56), sg_ 16 j_59, br h_62] (by kernel_rfl)
                · have H := ibF h_62 H
                  let v_65 : Int := wr .i64 (s_50.2 + (1 : Int))
                  replace H := ltD H
                  obtain rfl := Option.some.inj H
                  exact Runs.fin (T := tb) mixed [br h_54, ca [] (alloc_Span.ev e_56), sg_ 16 j_59, br h_62] (by kernel_rfl)
              · have H := itF h_54 H
                obtain rfl := Option.some.inj H
                exact Runs.fin (T := tb) mixed [br h_54] (by kernel_rfl)) e_52
            rcases b2 (decide (o_51 > a_3)) with h_66 | h_66
            · have H := itT h_66 H
              obtain rfl := Option.some.inj H
              exact Runs.fin (T := tb) mixed [br h_47, su j_53, br h_66] (by kernel_rfl)
            · have H := itF h_66 H
              obtain rfl := Option.some.inj H
              exact Runs.fin (T := tb) mixed [br h_47, su j_53, br h_66] (by kernel_rfl)
          · have H := itF h_47 H
            obtain rfl := Option.some.inj H
            exact Runs.fin (T := tb) mixed [br h_47] (by kernel_rfl)) e_43
        rcases o_42 with s_45 | s_46
        · obtain rfl := Option.some.inj H
          exact selvagelaw14_AllocEnough.F.run tb mixed [ca [] (selvagelaw14_awake.ev e_5), bn h_6, sg_ 3 j_9, br h_13, ca [] (alloc_Homes.ev e_15), au, su j_44] rfl (by kernel_rfl)
        · obtain ⟨o_70, e_71, H⟩ := bdE H
          have j_72 := Runs.loop (P := Try.prog) (N := selvagelaw14_AllocEnough.F.N) (m0 := 0) (c := sub_ selvagelaw14_AllocEnough.F.c [1, 1, 1, 1, 1, 1, 0, 1, 0, 0]) (f := (selvagelaw14_AllocEnough.l6 a_1 r_17)) (St := fun s_69 => ⟨[(0, .ro false 8 a_1.length (a_1.map api_Ins.c)), (7, .sl 0 0 r_17.2 0 r_17.2), (15, .v (.int .i64 s_69))], [.arr true 30 2 r_17.2 (r_17.1.map api_Home.c)], []⟩) (xo := (fun o => match o with | Sum.inl _ => .ret | Sum.inr (_) => (.exit 4) : (Unit ⊕ Unit) → Ex)) (So := (fun o => match o with | Sum.inl s_73 => ⟨[(6, .v (.bool false))], [], []⟩ | Sum.inr (s_74) => ⟨[], [], []⟩ : (Unit ⊕ Unit) → ASt)) (by intro o; rcases o with _ | _ <;> simp) (fun s_69 z H => by
            unfold selvagelaw14_AllocEnough.l6 at H
            rcases b2 (decide (s_69 < (r_17.2 : Int))) with h_75 | h_75
            · have H := itT h_75 H
              obtain ⟨r_76, e_77, H⟩ := bdE H
              rcases b2 r_76.2.2 with h_78 | h_78
              · have H := ibT h_78 H
                obtain ⟨g_79, H⟩ := gdE H
                obtain ⟨g_80, H⟩ := gdE H
                let v_81 : api_Home := gi r_17.1 s_69
                replace H := ltD H
                rcases b2 (decide (v_81.Reg < (0 : Int))) with h_82 | h_82
                · have H := itT h_82 H
                  obtain rfl := Option.some.inj H
                  exact Runs.fin (T := tb) mixed [br h_75, ca [] (alloc_Span.ev e_77), br h_78, pf g_79, el api_Home.c g_80, pk (rfl : true = true), br h_82] (by kernel_rfl)
                · have H := itF h_82 H
                  obtain rfl := Option.some.inj H
                  exact Runs.fin (T := tb) mixed [br h_75, ca [] (alloc_Span.ev e_77), br h_78, pf g_79, el api_Home.c g_80, pk (rfl : true = true), br h_82] (by kernel_rfl)
              · have H := ibF h_78 H
                obtain rfl := Option.some.inj H
                exact Runs.fin (T := tb) mixed [br h_75, ca [] (alloc_Span.ev e_77), br h_78, pk (rfl : false = false), au] (by kernel_rfl)
            · have H := itF h_75 H
              obtain rfl := Option.some.inj H
              exact Runs.fin (T := tb) mixed [br h_75] (by kernel_rfl)) e_71
          rcases o_70 with s_73 | s_74
          · obtain rfl := Option.some.inj H
            exact selvagelaw14_AllocEnough.F.run tb mixed [ca [] (selvagelaw14_awake.ev e_5), bn h_6, sg_ 3 j_9, br h_13, ca [] (alloc_Homes.ev e_15), au, su j_44, su j_72] rfl (by kernel_rfl)
          · obtain rfl := Option.some.inj H
            exact selvagelaw14_AllocEnough.F.run tb mixed [ca [] (selvagelaw14_awake.ev e_5), bn h_6, sg_ 3 j_9, br h_13, ca [] (alloc_Homes.ev e_15), au, su j_44, su j_72] rfl (by kernel_rfl)
  · have H := ibF h_6 H
    obtain rfl := Option.some.inj H
    exact selvagelaw14_AllocEnough.F.run tb mixed [ca [] (selvagelaw14_awake.ev e_5), bn h_6] rfl (by kernel_rfl)
end Go.Proofs.Ytgjibbicplbgbaa

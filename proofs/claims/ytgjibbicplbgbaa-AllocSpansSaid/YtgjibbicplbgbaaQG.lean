/- QG: several texts in one. -/
import Derived.Test.YtgjibbicplbgbaaQA
import Derived.Test.YtgjibbicplbgbaaQF
import Derived.Test.YtgjibbicplbgbaaQB
set_option linter.unusedVariables false
set_option linter.unusedSimpArgs false
set_option linter.unusedSectionVars false
set_option maxRecDepth 100000
namespace Go.Proofs.Ytgjibbicplbgbaa
open Go Go.RowKit Go.Proofs Go.Proofs.Ytgjibbicplbgbaa.X
open Go.Proofs.Ytgjibbicplbgbaa.B (wr sb feq fls qf flt i2f aget aset isnan)
noncomputable def selvagelaw14_AllocSpans.F : FI Try.prog 6 := ⟨Try.f6, 76, (Try.f6.body.getD .skip), Try.f6.results.toList, Try.call6, Try.func6, by kernel_rfl, by kernel_rfl, by kernel_rfl⟩
def selvagelaw14_AllocSpans.l2 (a_1 : List api_Ins) (s_16 : Int) (v_24 : api_Ins) (s_27 : Int) : Option (Int ⊕ (Unit ⊕ Unit)) :=
  if s_27 < (400 : Int) then (((selvageref14_Uses.m v_24 s_27).bind fun r_37 => if r_37 = true then (some (false : Bool)) else ((selvageref10_Has.m v_24.Op 100).bind fun r_40 => if r_40 = true then (some ((!(decide (v_24.D = s_27))) : Bool)) else (some (true : Bool))) : Option Bool).bind fun o_34 => if o_34 = true then (some (Sum.inl (wr .i64 (s_27 + (1 : Int))))) else ((alloc_Span.m a_1 s_27).bind fun r_44 => (if r_44.2.2 = true then (if s_16 < r_44.1 then (some (true : Bool)) else (some ((decide (s_16 > r_44.2.1)) : Bool))) else (some (true : Bool)) : Option Bool).bind fun o_46 => if o_46 = true then (some (Sum.inr (Sum.inl ()))) else (some (Sum.inl (wr .i64 (s_27 + (1 : Int))))))) else (some (Sum.inr (Sum.inr ())))
def selvagelaw14_AllocSpans.l1 (a_1 : List api_Ins) (s_16 : Int) : Option (Int ⊕ (Unit ⊕ Unit)) :=
  if s_16 < (a_1.length : Int) then (if 0 ≤ s_16 ∧ s_16 < (a_1.length : Int) then (letC (gi a_1 s_16) fun v_24 => (B.loop (selvagelaw14_AllocSpans.l2 a_1 s_16 v_24) (0 : Int)).bind fun o_28 => match o_28 with | Sum.inl s_31 => (some (Sum.inr (Sum.inl ()))) | Sum.inr (s_32) => (some (Sum.inl (wr .i64 (s_16 + (1 : Int)))))) else none) else (some (Sum.inr (Sum.inr ())))
def selvagelaw14_AllocSpans.m (a_1 : List api_Ins) (a_2 : List api_Loc) : Option (Bool) :=
  (selvagelaw14_awake.m).bind fun r_3 => if r_3 = true then ((if (a_1.length : Int) > (200 : Int) then (some (true : Bool)) else (if (a_2.length : Int) > (16 : Int) then (some (true : Bool)) else ((selvageref10_Right.m a_1 a_2).bind fun r_11 => some ((!r_11) : Bool))) : Option Bool).bind fun o_6 => if o_6 = true then (some true) else ((B.loop (selvagelaw14_AllocSpans.l1 a_1) (0 : Int)).bind fun o_17 => match o_17 with | Sum.inl s_20 => (some false) | Sum.inr (s_21) => (some true))) else (some false)
noncomputable def selvagelaw14_AllocSpans.o (a_1 : List api_Ins) (a_2 : List api_Loc) (r : Bool) : Out := .ret (.v (.bool r)) [] []
theorem selvagelaw14_AllocSpans.ev {a_1 : List api_Ins} {a_2 : List api_Loc} {r : Bool} (H : selvagelaw14_AllocSpans.m a_1 a_2 = some r) : Ev Try.prog 6 [.ro false 8 a_1.length (a_1.map api_Ins.c), .ro false 2 a_2.length (a_2.map api_Loc.c)] [] [] (selvagelaw14_AllocSpans.o a_1 a_2 r) := by
  unfold selvagelaw14_AllocSpans.m at H
  obtain ⟨r_3, e_4, H⟩ := bdE H
  rcases b2 r_3 with h_5 | h_5
  · have H := ibT h_5 H
    obtain ⟨o_6, e_7, H⟩ := bdE H
    have j_8 : Runs Try.prog selvagelaw14_AllocSpans.F.N 0 (sub_ selvagelaw14_AllocSpans.F.c [1, 1, 0, 0]) ⟨[(0, .ro false 8 a_1.length (a_1.map api_Ins.c)), (1, .ro false 2 a_2.length (a_2.map api_Loc.c))], [], []⟩ ((fun _ => .normal : Bool → Ex) o_6) ((fun o_6 => ⟨[(0, .ro false 8 a_1.length (a_1.map api_Ins.c)), (26, .v (.bool o_6))], [], []⟩ : Bool → ASt) o_6) := by
      clear H
      have H := e_7
      clear e_7
      rcases b2 (decide ((a_1.length : Int) > (200 : Int))) with h_9 | h_9
      · have H := itT h_9 H
        obtain rfl := Option.some.inj H
        exact Runs.fin (T := tb) mixed [br h_9, pk (rfl : true = true), au, pk (rfl : true = true)] (by kernel_rfl)
      · have H := itF h_9 H
        rcases b2 (decide ((a_2.length : Int) > (16 : Int))) with h_10 | h_10
        · have H := itT h_10 H
          obtain rfl := Option.some.inj H
          exact Runs.fin (T := tb) mixed [br h_9, pk (rfl : false = false), br h_10, pk (rfl : true = true)] (by kernel_rfl)
        · have H := itF h_10 H
          obtain ⟨r_11, e_12, H⟩ := bdE H
          obtain rfl := Option.some.inj H
          exact Runs.fin (T := tb) mixed [br h_9, pk (rfl : false = false), br h_10, ca [] (selvageref10_Right.ev e_12), pk (rfl : false = false)] (by kernel_rfl)
    rcases b2 o_6 with h_13 | h_13
    · have H := ibT h_13 H
      obtain rfl := Option.some.inj H
      exact selvagelaw14_AllocSpans.F.run tb mixed [ca [] (selvagelaw14_awake.ev e_4), bn h_5, sg_ 3 j_8, br h_13] rfl (by kernel_rfl)
    · have H := ibF h_13 H
      obtain ⟨o_17, e_18, H⟩ := bdE H
      have j_19 := Runs.loop (P := Try.prog) (N := selvagelaw14_AllocSpans.F.N) (m0 := 0) (c := sub_ selvagelaw14_AllocSpans.F.c [1, 1, 1, 0, 1, 0, 0]) (f := (selvagelaw14_AllocSpans.l1 a_1)) (St := fun s_16 => ⟨[(0, .ro false 8 a_1.length (a_1.map api_Ins.c)), (5, .v (.int .i64 s_16))], [], []⟩) (xo := (fun o => match o with | Sum.inl _ => .ret | Sum.inr (_) => (.exit 0) : (Unit ⊕ Unit) → Ex)) (So := (fun o => match o with | Sum.inl s_20 => ⟨[(4, .v (.bool false))], [], []⟩ | Sum.inr (s_21) => ⟨[], [], []⟩ : (Unit ⊕ Unit) → ASt)) (by intro o; rcases o with _ | _ <;> simp) (fun s_16 z H => by
        unfold selvagelaw14_AllocSpans.l1 at H
        rcases b2 (decide (s_16 < (a_1.length : Int))) with h_22 | h_22
        · have H := itT h_22 H
          obtain ⟨g_23, H⟩ := gdE H
          let v_24 : api_Ins := gi a_1 s_16
          replace H := ltD H
          obtain ⟨o_28, e_29, H⟩ := bdE H
          have j_30 := Runs.loop (P := Try.prog) (N := selvagelaw14_AllocSpans.F.N) (m0 := 0) (c := sub_ selvagelaw14_AllocSpans.F.c [1, 1, 1, 0, 1, 0, 0, 1, 0, 0, 1, 1, 0, 0]) (f := (selvagelaw14_AllocSpans.l2 a_1 s_16 v_24)) (St := fun s_27 => ⟨[(0, .ro false 8 a_1.length (a_1.map api_Ins.c)), (5, .v (.int .i64 s_16)), (6, .ref 0 0), (7, .v (.int .i64 s_27))], [.box (api_Ins.c v_24)], []⟩) (xo := (fun o => match o with | Sum.inl _ => .ret | Sum.inr (_) => (.exit 2) : (Unit ⊕ Unit) → Ex)) (So := (fun o => match o with | Sum.inl s_31 => ⟨[(4, .v (.bool false))], [], []⟩ | Sum.inr (s_32) => ⟨[(0, .ro false 8 a_1.length (a_1.map api_Ins.c)), (5, .v (.int .i64 s_16))], [], []⟩ : (Unit ⊕ Unit) → ASt)) (by intro o; rcases o with _ | _ <;> simp) (fun s_27 z H => by
            unfold selvagelaw14_AllocSpans.l2 at H
            rcases b2 (decide (s_27 < (400 : Int))) with h_33 | h_33
            · have H := itT h_33 H
              obtain ⟨o_34, e_35, H⟩ := bdE H
              have j_36 : Runs Try.prog selvagelaw14_AllocSpans.F.N 0 (sub_ selvagelaw14_AllocSpans.F.c [1, 1, 1, 0, 1, 0, 0, 1, 0, 0, 1, 1, 0, 0, 1, 0, 0, 0, 0]) ⟨[(0, .ro false 8 a_1.length (a_1.map api_Ins.c)), (5, .v (.int .i64 s_16)), (6, .ref 0 0), (7, .v (.int .i64 s_27))], [.box (api_Ins.c v_24)], []⟩ ((fun _ => .normal : Bool → Ex) o_34) ((fun o_34 => ⟨[(0, .ro false 8 a_1.length (a_1.map api_Ins.c)), (5, .v (.int .i64 s_16)), (6, .ref 0 0), (7, .v (.int .i64 s_27)), (56, .v (.bool o_34))], [.box (api_Ins.c v_24)], []⟩ : Bool → ASt) o_34) := by
                clear H
                have H := e_35
                clear e_35
                obtain ⟨r_37, e_38, H⟩ := bdE H
                rcases b2 r_37 with h_39 | h_39
                · have H := ibT h_39 H
                  obtain rfl := Option.some.inj H
                  exact Runs.fin (T := tb) mixed [ca [] (selvageref14_Uses.ev e_38), bn h_39, pk (rfl : false = false)] (by kernel_rfl)
                · have H := ibF h_39 H
                  obtain ⟨r_40, e_41, H⟩ := bdE H
                  rcases b2 r_40 with h_42 | h_42
                  · have H := ibT h_42 H
                    obtain rfl := Option.some.inj H
                    exact Runs.fin (T := tb) mixed [ca [] (selvageref14_Uses.ev e_38), bn h_39, ca [] (selvageref10_Has.ev e_41), bn h_42, pk (rfl : false = false), pk (rfl : true = true)] (by kernel_rfl)
                  · have H := ibF h_42 H
                    obtain rfl := Option.some.inj H
                    exact Runs.fin (T := tb) mixed [ca [] (selvageref14_Uses.ev e_38), bn h_39, ca [] (selvageref10_Has.ev e_41), bn h_42, pk (rfl : true = true), pk (rfl : true = true)] (by kernel_rfl)
              rcases b2 o_34 with h_43 | h_43
              · have H := ibT h_43 H
                obtain rfl := Option.some.inj H
                exact Runs.fin (T := tb) mixed [br h_33, sg_ 12 j_36, br h_43] (by kernel_rfl)
              · have H := ibF h_43 H
                obtain ⟨r_44, e_45, H⟩ := bdE H
                obtain ⟨o_46, e_47, H⟩ := bdE H
                have j_48 : Runs Try.prog selvagelaw14_AllocSpans.F.N 0 (sub_ selvagelaw14_AllocSpans.F.c [1, 1, 1, 0, 1, 0, 0, 1, 0, 0, 1, 1, 0, 0, 1, 0, 0, 1, 1, 0]) ⟨[(0, .ro false 8 a_1.length (a_1.map api_Ins.c)), (5, .v (.int .i64 s_16)), (6, .ref 0 0), (7, .v (.int .i64 s_27)), (8, .v (.int .i64 r_44.1)), (9, .v (.int .i64 r_44.2.1)), (10, .v (.bool r_44.2.2))], [.box (api_Ins.c v_24)], []⟩ ((fun _ => .normal : Bool → Ex) o_46) ((fun o_46 => ⟨[(0, .ro false 8 a_1.length (a_1.map api_Ins.c)), (5, .v (.int .i64 s_16)), (6, .ref 0 0), (7, .v (.int .i64 s_27)), (75, .v (.bool o_46))], [.box (api_Ins.c v_24)], []⟩ : Bool → ASt) o_46) := by
                  clear H
                  have H := e_47
                  clear e_47
                  rcases b2 r_44.2.2 with h_49 | h_49
                  · have H := ibT h_49 H
                    rcases b2 (decide (s_16 < r_44.1)) with h_50 | h_50
                    · have H := itT h_50 H
                      obtain rfl := Option.some.inj H
                      exact Runs.fin (T := tb) mixed [bn h_49, pk (rfl : false = false), br h_50, pk (rfl : true = true)] (by kernel_rfl)
                    · have H := itF h_50 H
                      obtain rfl := Option.some.inj H
                      exact Runs.fin (T := tb) mixed [bn h_49, pk (rfl : false = false), br h_50, pk (rfl : false = false)] (by kernel_rfl)
                  · have H := ibF h_49 H
                    obtain rfl := Option.some.inj H
                    exact Runs.fin (T := tb) mixed [bn h_49, pk (rfl : true = true), au, pk (rfl : true = true)] (by kernel_rfl)
                rcases b2 o_46 with h_51 | h_51
                · have H := ibT h_51 H
                  obtain rfl := Option.some.inj H
                  exact Runs.fin (T := tb) mixed [br h_33, sg_ 12 j_36, br h_43, ca [] (alloc_Span.ev e_45), sg_ 14 j_48, br h_51] (by kernel_rfl)
                · have H := ibF h_51 H
                  obtain rfl := Option.some.inj H
                  exact Runs.fin (T := tb) mixed [br h_33, sg_ 12 j_36, br h_43, ca [] (alloc_Span.ev e_45), sg_ 14 j_48, br h_51] (by kernel_rfl)
            · have H := itF h_33 H
              obtain rfl := Option.some.inj H
              exact Runs.fin (T := tb) mixed [br h_33] (by kernel_rfl)) e_29
          rcases o_28 with s_31 | s_32
          · obtain rfl := Option.some.inj H
            exact Runs.fin (T := tb) mixed [br h_22, ix api_Ins.c g_23, su j_30] (by kernel_rfl)
          · obtain rfl := Option.some.inj H
            exact Runs.fin (T := tb) mixed [br h_22, ix api_Ins.c g_23, su j_30] (by kernel_rfl)
        · have H := itF h_22 H
          obtain rfl := Option.some.inj H
          exact Runs.fin (T := tb) mixed [br h_22] (by kernel_rfl)) e_18
      rcases o_17 with s_20 | s_21
      · obtain rfl := Option.some.inj H
        exact selvagelaw14_AllocSpans.F.run tb mixed [ca [] (selvagelaw14_awake.ev e_4), bn h_5, sg_ 3 j_8, br h_13, su j_19] rfl (by kernel_rfl)
      · obtain rfl := Option.some.inj H
        exact selvagelaw14_AllocSpans.F.run tb mixed [ca [] (selvagelaw14_awake.ev e_4), bn h_5, sg_ 3 j_8, br h_13, su j_19] rfl (by kernel_rfl)
  · have H := ibF h_5 H
    obtain rfl := Option.some.inj H
    exact selvagelaw14_AllocSpans.F.run tb mixed [ca [] (selvagelaw14_awake.ev e_4), bn h_5] rfl (by kernel_rfl)
end Go.Proofs.Ytgjibbicplbgbaa

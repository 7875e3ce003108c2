/- QC: several texts in one. -/
import Derived.Test.YtbhekpcimmaijaaQA
import Derived.Test.YtbhekpcimmaijaaQB
import Derived.Test.YtbhekpcimmaijaaLE
set_option linter.unusedVariables false
set_option linter.unusedSimpArgs false
set_option linter.unusedSectionVars false
set_option maxRecDepth 100000
namespace Go.Proofs.Ytbhekpcimmaijaa
open Go Go.RowKit Go.Proofs Go.Proofs.Ytbhekpcimmaijaa.X
open Go.Proofs.Ytbhekpcimmaijaa.B (wr sb feq fls qf flt i2f aget aset isnan isnan_flt)
noncomputable def thread_Acts.F : FI Try.prog 15 := fi Try.f15 154 Try.call15 Try.func15
def thread_Acts.l2 (a_1 : List api_Event) (a_2 : List api_Loc) (o_6 : List (Int × Int)) (s_26 : (List api_Act) × Int) : Option (((List api_Act) × Int) ⊕ (List api_Act)) :=
 if s_26.2 < (a_1.length : Int) then (if 0 ≤ s_26.2 ∧ s_26.2 < (a_1.length : Int) then (letC (gi a_1 s_26.2) fun v_32 => (if v_32.Loc ≥ 0 then (if v_32.Loc < (a_2.length : Int) then (if 0 ≤ v_32.Loc ∧ v_32.Loc < (a_2.length : Int) then (letC (gi a_2 v_32.Loc) fun v_39 => some (v_39.Atomic : Bool)) else none) else (some (false : Bool))) else (some (false : Bool)) : Option Bool).bind fun o_33 => if v_32.Kind = 6 then (if (s_26.1.length + ([(api_Act.mk 6 0 0 v_32.Val)] : List api_Act).length) * 32 ≤ 140737488355328 then (letC (s_26.1 ++ ([(api_Act.mk 6 0 0 v_32.Val)] : List api_Act)) fun v_42 => letC (wr .i64 (s_26.2 + 1)) fun v_43 => some (Sum.inl (v_42, v_43))) else none) else ((thread_Acts_1.m s_26.2 a_1).bind fun r_44 => if r_44 = true then (letC (wr .i64 (v_32.Pair - 1)) fun v_47 => if 0 ≤ v_47 ∧ v_47 < (a_1.length : Int) then (letC (gi a_1 v_47) fun v_49 => if (s_26.1.length + ([(api_Act.mk 5 v_32.Loc v_49.Val v_32.Val)] : List api_Act).length) * 32 ≤ 140737488355328 then (letC (s_26.1 ++ ([(api_Act.mk 5 v_32.Loc v_49.Val v_32.Val)] : List api_Act)) fun v_51 => letC (wr .i64 (s_26.2 + 1)) fun v_52 => some (Sum.inl (v_51, v_52))) else none) else none) else ((if v_32.Kind = 1 then (match aget o_6 s_26.2 with | none => (some (o_33 : Bool)) | some v_57 => (if v_57 = 0 then (some (o_33 : Bool)) else (some (false : Bool)))) else (some (false : Bool)) : Option Bool).bind fun o_53 => if o_53 = true then (if (s_26.1.length + ([(api_Act.mk 3 v_32.Loc v_32.Val 0)] : List api_Act).length) * 32 ≤ 140737488355328 then (letC (s_26.1 ++ ([(api_Act.mk 3 v_32.Loc v_32.Val 0)] : List api_Act)) fun v_63 => letC (wr .i64 (s_26.2 + 1)) fun v_64 => some (Sum.inl (v_63, v_64))) else none) else ((if v_32.Kind = 1 then (match aget o_6 s_26.2 with | none => (some (true : Bool)) | some v_69 => (some ((decide (v_69 = 0)) : Bool))) else (some (false : Bool)) : Option Bool).bind fun o_65 => if o_65 = true then (if (s_26.1.length + ([(api_Act.mk 1 v_32.Loc v_32.Val 0)] : List api_Act).length) * 32 ≤ 140737488355328 then (letC (s_26.1 ++ ([(api_Act.mk 1 v_32.Loc v_32.Val 0)] : List api_Act)) fun v_74 => letC (wr .i64 (s_26.2 + 1)) fun v_75 => some (Sum.inl (v_74, v_75))) else none) else ((if v_32.Kind = 2 then (some (o_33 : Bool)) else (some (false : Bool)) : Option Bool).bind fun o_76 => if o_76 = true then (if (s_26.1.length + ([(api_Act.mk 4 v_32.Loc 0 v_32.Val)] : List api_Act).length) * 32 ≤ 140737488355328 then (letC (s_26.1 ++ ([(api_Act.mk 4 v_32.Loc 0 v_32.Val)] : List api_Act)) fun v_82 => letC (wr .i64 (s_26.2 + 1)) fun v_83 => some (Sum.inl (v_82, v_83))) else none) else (if v_32.Kind = 2 then (if (s_26.1.length + ([(api_Act.mk 2 v_32.Loc 0 v_32.Val)] : List api_Act).length) * 32 ≤ 140737488355328 then (letC (s_26.1 ++ ([(api_Act.mk 2 v_32.Loc 0 v_32.Val)] : List api_Act)) fun v_86 => letC (wr .i64 (s_26.2 + 1)) fun v_87 => some (Sum.inl (v_86, v_87))) else none) else (letC (wr .i64 (s_26.2 + 1)) fun v_88 => some (Sum.inl (s_26.1, v_88))))))))) else none) else (some (Sum.inr s_26.1))
def thread_Acts.l1 (a_1 : List api_Event) (s_5 : (List (Int × Int)) × Int) : Option (((List (Int × Int)) × Int) ⊕ (List (Int × Int))) :=
 if s_5.2 < (a_1.length : Int) then (if 0 ≤ s_5.2 ∧ s_5.2 < (a_1.length : Int) then (letC (gi a_1 s_5.2) fun v_11 => (thread_Acts_1.m s_5.2 a_1).bind fun r_12 => if r_12 = true then (letC (wr .i64 (v_11.Pair - 1)) fun v_15 => match aget s_5.1 v_15 with | none => (letC (aset s_5.1 v_15 1) fun v_19 => letC (wr .i64 (s_5.2 + 1)) fun v_20 => some (Sum.inl (v_19, v_20))) | some v_16 => (letC (aset s_5.1 v_15 (wr .i64 (v_16 + 1))) fun v_21 => letC (wr .i64 (s_5.2 + 1)) fun v_22 => some (Sum.inl (v_21, v_22)))) else (letC (wr .i64 (s_5.2 + 1)) fun v_23 => some (Sum.inl (s_5.1, v_23)))) else none) else (some (Sum.inr s_5.1))
def thread_Acts.m (a_1 : List api_Event) (a_2 : List api_Loc) : Option (List api_Act) :=
 (B.loop (thread_Acts.l1 a_1) ((([] : List (Int × Int)), 0) : (List (Int × Int)) × Int)).bind fun o_6 => (B.loop (thread_Acts.l2 a_1 a_2 o_6) ((([] : List api_Act), 0) : (List api_Act) × Int)).bind fun o_27 => some o_27
noncomputable def thread_Acts.o (a_1 : List api_Event) (a_2 : List api_Loc) (r : List api_Act) : Out := .ret (sL 2 r) [.dead, .dead, .arr true 64 4 r.length (r.map api_Act.c)] []
theorem thread_Acts.ev {a_1 : List api_Event} {a_2 : List api_Loc} {r : List api_Act} (H : thread_Acts.m a_1 a_2 = some r) : Ev Try.prog 15 [.ro false 8 a_1.length (a_1.map api_Event.c), .ro false 2 a_2.length (a_2.map api_Loc.c)] [] [] (thread_Acts.o a_1 a_2 r) := by
 unfold thread_Acts.m at H
 obtain ⟨o_6, e_7, H⟩ := bdE H
 have j_8 := Runs.loop (P := Try.prog) (N := thread_Acts.F.N) (m0 := 0) (c := sub_ thread_Acts.F.c [1, 1, 1, 0, 1, 0, 0]) (f := (thread_Acts.l1 a_1)) (St := fun s_5 => ⟨[(1, .ro false 2 a_2.length (a_2.map api_Loc.c)), (2, .ref 0 0), (5, .mp 1), (6, .fn 32 [] [.ref 0 0]), (15, .ro false 8 a_1.length (a_1.map api_Event.c)), (16, vi (a_1.length : Int)), (17, vi s_5.2)], [.box [.ro false 8 a_1.length (a_1.map api_Event.c)], .mp .i64 (mE (vI .i64) s_5.1)], []⟩) (xo := (fun _ => (.exit 0) : (List (Int × Int)) → Ex)) (So := (fun o_6 => ⟨[(1, .ro false 2 a_2.length (a_2.map api_Loc.c)), (2, .ref 0 0), (5, .mp 1), (6, .fn 32 [] [.ref 0 0])], [.box [.ro false 8 a_1.length (a_1.map api_Event.c)], .mp .i64 (mE (vI .i64) o_6)], []⟩ : (List (Int × Int)) → ASt)) (by intro o; simp) (fun s_5 z H => by
  unfold thread_Acts.l1 at H
  rcases ic H with ⟨h_9, H⟩ | ⟨h_9, H⟩
  ·obtain ⟨g_10, H⟩ := gdE H
   let v_11 : api_Event := gi a_1 s_5.2
   replace H := ltD H
   obtain ⟨r_12, e_13, H⟩ := bdE H
   rcases ie H with ⟨h_14, H⟩ | ⟨h_14, H⟩
   ·let v_15 : Int := wr .i64 (v_11.Pair - 1)
    replace H := ltD H
    rcases e_17 : aget s_5.1 v_15 with _ | v_16
    ·rw [e_17] at H
     let v_19 : List (Int × Int) := aset s_5.1 v_15 1
     replace H := ltD H
     let v_20 : Int := wr .i64 (s_5.2 + 1)
     replace H := ltD H
     obtain rfl := sj H
     exact fn [br h_9, ix api_Event.c g_10, ca [0] (thread_Acts_1.ev e_13), br h_14, mgN (vI .i64) e_17, ms (vI .i64) s_5.1 v_15 1]
    ·rw [e_17] at H
     let v_21 : List (Int × Int) := aset s_5.1 v_15 (wr .i64 (v_16 + 1))
     replace H := ltD H
     let v_22 : Int := wr .i64 (s_5.2 + 1)
     replace H := ltD H
     obtain rfl := sj H
     exact fn [br h_9, ix api_Event.c g_10, ca [0] (thread_Acts_1.ev e_13), br h_14, mgS (vI .i64) e_17, ms (vI .i64) s_5.1 v_15 (wr .i64 (v_16 + 1))]
   ·let v_23 : Int := wr .i64 (s_5.2 + 1)
    replace H := ltD H
    obtain rfl := sj H
    exact fn [br h_9, ix api_Event.c g_10, ca [0] (thread_Acts_1.ev e_13), br h_14]
  ·obtain rfl := sj H
   exact fn [br h_9] (by kernel_rfl)) e_7
 obtain ⟨o_27, e_28, H⟩ := bdE H
 have j_29 := Runs.loop (P := Try.prog) (N := thread_Acts.F.N) (m0 := 0) (c := sub_ thread_Acts.F.c [1, 1, 1, 1, 1, 0, 1, 0, 0]) (f := (thread_Acts.l2 a_1 a_2 o_6)) (St := fun s_26 => ⟨[(1, .ro false 2 a_2.length (a_2.map api_Loc.c)), (2, .ref 0 0), (5, .mp 1), (6, .fn 32 [] [.ref 0 0]), (9, sL 2 s_26.1), (32, .ro false 8 a_1.length (a_1.map api_Event.c)), (33, vi (a_1.length : Int)), (34, vi s_26.2)], [.box [.ro false 8 a_1.length (a_1.map api_Event.c)], .mp .i64 (mE (vI .i64) o_6), .arr true 64 4 s_26.1.length (s_26.1.map api_Act.c)], []⟩) (xo := (fun _ => (.exit 2) : (List api_Act) → Ex)) (So := (fun o_27 => ⟨[(9, sL 2 o_27)], [.dead, .dead, .arr true 64 4 o_27.length (o_27.map api_Act.c)], []⟩ : (List api_Act) → ASt)) (by intro o; simp) (fun s_26 z H => by
  unfold thread_Acts.l2 at H
  rcases ic H with ⟨h_30, H⟩ | ⟨h_30, H⟩
  ·obtain ⟨g_31, H⟩ := gdE H
   let v_32 : api_Event := gi a_1 s_26.2
   replace H := ltD H
   obtain ⟨o_33, e_34, H⟩ := bdE H
   have j_35 : Rq thread_Acts.F 0 [1, 1, 1, 1, 1, 0, 1, 0, 0, 1, 1, 0, 0, 1, 0] ⟨[(1, .ro false 2 a_2.length (a_2.map api_Loc.c)), (2, .ref 0 0), (5, .mp 1), (6, .fn 32 [] [.ref 0 0]), (9, sL 2 s_26.1), (10, vi s_26.2), (11, .ref 3 0), (32, .ro false 8 a_1.length (a_1.map api_Event.c)), (33, vi (a_1.length : Int)), (34, vi s_26.2)], [.box [.ro false 8 a_1.length (a_1.map api_Event.c)], .mp .i64 (mE (vI .i64) o_6), .arr true 64 4 s_26.1.length (s_26.1.map api_Act.c), .box (api_Event.c v_32)], []⟩ ((fun _ => .normal : Bool → Ex) o_33) ((fun o_33 => ⟨[(1, .ro false 2 a_2.length (a_2.map api_Loc.c)), (2, .ref 0 0), (5, .mp 1), (6, .fn 32 [] [.ref 0 0]), (9, sL 2 s_26.1), (10, vi s_26.2), (11, .ref 3 0), (12, .v (.bool o_33)), (32, .ro false 8 a_1.length (a_1.map api_Event.c)), (33, vi (a_1.length : Int)), (34, vi s_26.2)], [.box [.ro false 8 a_1.length (a_1.map api_Event.c)], .mp .i64 (mE (vI .i64) o_6), .arr true 64 4 s_26.1.length (s_26.1.map api_Act.c), .box (api_Event.c v_32)], []⟩ : Bool → ASt) o_33) := by
    clear H
    have H := e_34
    clear e_34
    rcases ic H with ⟨h_36, H⟩ | ⟨h_36, H⟩
    ·rcases ic H with ⟨h_37, H⟩ | ⟨h_37, H⟩
     ·obtain ⟨g_38, H⟩ := gdE H
      let v_39 : api_Loc := gi a_2 v_32.Loc
      replace H := ltD H
      obtain rfl := sj H
      exact fn [br h_36, pT, br h_37, ix api_Loc.c g_38, pT]
     ·obtain rfl := sj H
      exact fn [br h_36, pT, br h_37, pF]
    ·obtain rfl := sj H
     exact fn [br h_36, pF, au, pF]
   rcases ic H with ⟨h_40, H⟩ | ⟨h_40, H⟩
   ·obtain ⟨g_41, H⟩ := gdE H
    let v_42 : List api_Act := s_26.1 ++ ([(api_Act.mk 6 0 0 v_32.Val)] : List api_Act)
    replace H := ltD H
    let v_43 : Int := wr .i64 (s_26.2 + 1)
    replace H := ltD H
    obtain rfl := sj H
    exact fn [br h_30, ix api_Event.c g_31, sg_ 13 j_35, br h_40, ap api_Act.c 32 false s_26.1 ([(api_Act.mk 6 0 0 v_32.Val)] : List api_Act) g_41 (fun h => by cases h)]
   ·obtain ⟨r_44, e_45, H⟩ := bdE H
    rcases ie H with ⟨h_46, H⟩ | ⟨h_46, H⟩
    ·let v_47 : Int := wr .i64 (v_32.Pair - 1)
     replace H := ltD H
     obtain ⟨g_48, H⟩ := gdE H
     let v_49 : api_Event := gi a_1 v_47
     replace H := ltD H
     obtain ⟨g_50, H⟩ := gdE H
     let v_51 : List api_Act := s_26.1 ++ ([(api_Act.mk 5 v_32.Loc v_49.Val v_32.Val)] : List api_Act)
     replace H := ltD H
     let v_52 : Int := wr .i64 (s_26.2 + 1)
     replace H := ltD H
     obtain rfl := sj H
     exact fn [br h_30, ix api_Event.c g_31, sg_ 13 j_35, br h_40, ca [0] (thread_Acts_1.ev e_45), br h_46, ix api_Event.c g_48, ap api_Act.c 32 false s_26.1 ([(api_Act.mk 5 v_32.Loc v_49.Val v_32.Val)] : List api_Act) g_50 (fun h => by cases h)]
    ·obtain ⟨o_53, e_54, H⟩ := bdE H
     have j_55 : Rq thread_Acts.F 0 [1, 1, 1, 1, 1, 0, 1, 0, 0, 1, 1, 0, 0, 1, 1, 0, 1, 1, 1, 1, 0] ⟨[(1, .ro false 2 a_2.length (a_2.map api_Loc.c)), (2, .ref 0 0), (5, .mp 1), (6, .fn 32 [] [.ref 0 0]), (9, sL 2 s_26.1), (10, vi s_26.2), (11, .ref 3 0), (12, .v (.bool o_33)), (32, .ro false 8 a_1.length (a_1.map api_Event.c)), (33, vi (a_1.length : Int)), (34, vi s_26.2)], [.box [.ro false 8 a_1.length (a_1.map api_Event.c)], .mp .i64 (mE (vI .i64) o_6), .arr true 64 4 s_26.1.length (s_26.1.map api_Act.c), .box (api_Event.c v_32)], []⟩ ((fun _ => .normal : Bool → Ex) o_53) ((fun o_53 => ⟨[(1, .ro false 2 a_2.length (a_2.map api_Loc.c)), (2, .ref 0 0), (5, .mp 1), (6, .fn 32 [] [.ref 0 0]), (9, sL 2 s_26.1), (10, vi s_26.2), (11, .ref 3 0), (12, .v (.bool o_33)), (32, .ro false 8 a_1.length (a_1.map api_Event.c)), (33, vi (a_1.length : Int)), (34, vi s_26.2), (86, .v (.bool o_53))], [.box [.ro false 8 a_1.length (a_1.map api_Event.c)], .mp .i64 (mE (vI .i64) o_6), .arr true 64 4 s_26.1.length (s_26.1.map api_Act.c), .box (api_Event.c v_32)], []⟩ : Bool → ASt) o_53) := by
      clear H
      have H := e_54
      clear e_54
      rcases ic H with ⟨h_56, H⟩ | ⟨h_56, H⟩
      ·rcases e_58 : aget o_6 s_26.2 with _ | v_57
       ·rw [e_58] at H
        obtain rfl := sj H
        exact fn [br h_56, mgN (vI .i64) e_58, pT, au, pT]
       ·rw [e_58] at H
        rcases ic H with ⟨h_60, H⟩ | ⟨h_60, H⟩
        ·obtain rfl := sj H
         exact fn [br h_56, mgS (vI .i64) e_58, pT, br h_60, pT]
        ·obtain rfl := sj H
         exact fn [br h_56, mgS (vI .i64) e_58, pT, br h_60, pF]
      ·obtain rfl := sj H
       exact fn [br h_56, pF, au, pF]
     rcases ie H with ⟨h_61, H⟩ | ⟨h_61, H⟩
     ·obtain ⟨g_62, H⟩ := gdE H
      let v_63 : List api_Act := s_26.1 ++ ([(api_Act.mk 3 v_32.Loc v_32.Val 0)] : List api_Act)
      replace H := ltD H
      let v_64 : Int := wr .i64 (s_26.2 + 1)
      replace H := ltD H
      obtain rfl := sj H
      exact fn [br h_30, ix api_Event.c g_31, sg_ 13 j_35, br h_40, ca [0] (thread_Acts_1.ev e_45), br h_46, sg_ 18 j_55, br h_61, ap api_Act.c 32 false s_26.1 ([(api_Act.mk 3 v_32.Loc v_32.Val 0)] : List api_Act) g_62 (fun h => by cases h)]
     ·obtain ⟨o_65, e_66, H⟩ := bdE H
      have j_67 : Rq thread_Acts.F 0 [1, 1, 1, 1, 1, 0, 1, 0, 0, 1, 1, 0, 0, 1, 1, 0, 1, 1, 1, 1, 1, 1, 0] ⟨[(1, .ro false 2 a_2.length (a_2.map api_Loc.c)), (2, .ref 0 0), (5, .mp 1), (6, .fn 32 [] [.ref 0 0]), (9, sL 2 s_26.1), (10, vi s_26.2), (11, .ref 3 0), (12, .v (.bool o_33)), (32, .ro false 8 a_1.length (a_1.map api_Event.c)), (33, vi (a_1.length : Int)), (34, vi s_26.2)], [.box [.ro false 8 a_1.length (a_1.map api_Event.c)], .mp .i64 (mE (vI .i64) o_6), .arr true 64 4 s_26.1.length (s_26.1.map api_Act.c), .box (api_Event.c v_32)], []⟩ ((fun _ => .normal : Bool → Ex) o_65) ((fun o_65 => ⟨[(1, .ro false 2 a_2.length (a_2.map api_Loc.c)), (2, .ref 0 0), (5, .mp 1), (6, .fn 32 [] [.ref 0 0]), (9, sL 2 s_26.1), (11, .ref 3 0), (12, .v (.bool o_33)), (32, .ro false 8 a_1.length (a_1.map api_Event.c)), (33, vi (a_1.length : Int)), (34, vi s_26.2), (107, .v (.bool o_65))], [.box [.ro false 8 a_1.length (a_1.map api_Event.c)], .mp .i64 (mE (vI .i64) o_6), .arr true 64 4 s_26.1.length (s_26.1.map api_Act.c), .box (api_Event.c v_32)], []⟩ : Bool → ASt) o_65) := by
       clear H
       have H := e_66
       clear e_66
       rcases ic H with ⟨h_68, H⟩ | ⟨h_68, H⟩
       ·rcases e_70 : aget o_6 s_26.2 with _ | v_69
        ·rw [e_70] at H
         obtain rfl := sj H
         exact fn [br h_68, mgN (vI .i64) e_70, pT]
        ·rw [e_70] at H
         obtain rfl := sj H
         exact fn [br h_68, mgS (vI .i64) e_70, pT]
       ·obtain rfl := sj H
        exact fn [br h_68, pF]
      rcases ie H with ⟨h_72, H⟩ | ⟨h_72, H⟩
      ·obtain ⟨g_73, H⟩ := gdE H
       let v_74 : List api_Act := s_26.1 ++ ([(api_Act.mk 1 v_32.Loc v_32.Val 0)] : List api_Act)
       replace H := ltD H
       let v_75 : Int := wr .i64 (s_26.2 + 1)
       replace H := ltD H
       obtain rfl := sj H
       exact fn [br h_30, ix api_Event.c g_31, sg_ 13 j_35, br h_40, ca [0] (thread_Acts_1.ev e_45), br h_46, sg_ 18 j_55, br h_61, sg_ 20 j_67, br h_72, ap api_Act.c 32 false s_26.1 ([(api_Act.mk 1 v_32.Loc v_32.Val 0)] : List api_Act) g_73 (fun h => by cases h)]
      ·obtain ⟨o_76, e_77, H⟩ := bdE H
       have j_78 : Rq thread_Acts.F 0 [1, 1, 1, 1, 1, 0, 1, 0, 0, 1, 1, 0, 0, 1, 1, 0, 1, 1, 1, 1, 1, 1, 1, 1, 0] ⟨[(1, .ro false 2 a_2.length (a_2.map api_Loc.c)), (2, .ref 0 0), (5, .mp 1), (6, .fn 32 [] [.ref 0 0]), (9, sL 2 s_26.1), (11, .ref 3 0), (12, .v (.bool o_33)), (32, .ro false 8 a_1.length (a_1.map api_Event.c)), (33, vi (a_1.length : Int)), (34, vi s_26.2)], [.box [.ro false 8 a_1.length (a_1.map api_Event.c)], .mp .i64 (mE (vI .i64) o_6), .arr true 64 4 s_26.1.length (s_26.1.map api_Act.c), .box (api_Event.c v_32)], []⟩ ((fun _ => .normal : Bool → Ex) o_76) ((fun o_76 => ⟨[(1, .ro false 2 a_2.length (a_2.map api_Loc.c)), (2, .ref 0 0), (5, .mp 1), (6, .fn 32 [] [.ref 0 0]), (9, sL 2 s_26.1), (11, .ref 3 0), (32, .ro false 8 a_1.length (a_1.map api_Event.c)), (33, vi (a_1.length : Int)), (34, vi s_26.2), (125, .v (.bool o_76))], [.box [.ro false 8 a_1.length (a_1.map api_Event.c)], .mp .i64 (mE (vI .i64) o_6), .arr true 64 4 s_26.1.length (s_26.1.map api_Act.c), .box (api_Event.c v_32)], []⟩ : Bool → ASt) o_76) := by
        clear H
        have H := e_77
        clear e_77
        rcases ic H with ⟨h_79, H⟩ | ⟨h_79, H⟩
        ·obtain rfl := sj H
         exact fn [br h_79, pT]
        ·obtain rfl := sj H
         exact fn [br h_79, pF]
       rcases ie H with ⟨h_80, H⟩ | ⟨h_80, H⟩
       ·obtain ⟨g_81, H⟩ := gdE H
        let v_82 : List api_Act := s_26.1 ++ ([(api_Act.mk 4 v_32.Loc 0 v_32.Val)] : List api_Act)
        replace H := ltD H
        let v_83 : Int := wr .i64 (s_26.2 + 1)
        replace H := ltD H
        obtain rfl := sj H
        exact fn [br h_30, ix api_Event.c g_31, sg_ 13 j_35, br h_40, ca [0] (thread_Acts_1.ev e_45), br h_46, sg_ 18 j_55, br h_61, sg_ 20 j_67, br h_72, sg_ 22 j_78, br h_80, ap api_Act.c 32 false s_26.1 ([(api_Act.mk 4 v_32.Loc 0 v_32.Val)] : List api_Act) g_81 (fun h => by cases h)]
       ·rcases ic H with ⟨h_84, H⟩ | ⟨h_84, H⟩
        ·obtain ⟨g_85, H⟩ := gdE H
         let v_86 : List api_Act := s_26.1 ++ ([(api_Act.mk 2 v_32.Loc 0 v_32.Val)] : List api_Act)
         replace H := ltD H
         let v_87 : Int := wr .i64 (s_26.2 + 1)
         replace H := ltD H
         obtain rfl := sj H
         exact fn [br h_30, ix api_Event.c g_31, sg_ 13 j_35, br h_40, ca [0] (thread_Acts_1.ev e_45), br h_46, sg_ 18 j_55, br h_61, sg_ 20 j_67, br h_72, sg_ 22 j_78, br h_80, br h_84, ap api_Act.c 32 false s_26.1 ([(api_Act.mk 2 v_32.Loc 0 v_32.Val)] : List api_Act) g_85 (fun h => by cases h)]
        ·let v_88 : Int := wr .i64 (s_26.2 + 1)
         replace H := ltD H
         obtain rfl := sj H
         exact fn [br h_30, ix api_Event.c g_31, sg_ 13 j_35, br h_40, ca [0] (thread_Acts_1.ev e_45), br h_46, sg_ 18 j_55, br h_61, sg_ 20 j_67, br h_72, sg_ 22 j_78, br h_80, br h_84]
  ·obtain rfl := sj H
   exact fn [br h_30] (by kernel_rfl)) e_28
 obtain rfl := sj H
 exact thread_Acts.F.run tb mixed [su j_8, su j_29, adL 9 (some 64) 4] rfl (by kernel_rfl)
def thread_Acts.k2 (a_1 : List api_Event) (a_2 : List api_Loc) (o_6 : List (Int × Int)) (s_26 : (List api_Act) × Int) : Option (((List api_Act) × Int) ⊕ (List api_Act)) :=
 if s_26.2 < (a_1.length : Int) then (if 0 ≤ s_26.2 ∧ s_26.2 < (a_1.length : Int) then (letK (gi a_1 s_26.2) fun v_32 => (if v_32.Loc ≥ 0 then (if v_32.Loc < (a_2.length : Int) then (if 0 ≤ v_32.Loc ∧ v_32.Loc < (a_2.length : Int) then (letK (gi a_2 v_32.Loc) fun v_39 => some (v_39.Atomic : Bool)) else none) else (some (false : Bool))) else (some (false : Bool)) : Option Bool).bind fun o_33 => if v_32.Kind = 6 then (if (s_26.1.length + ([(api_Act.mk 6 0 0 v_32.Val)] : List api_Act).length) * 32 ≤ 140737488355328 then (letK (s_26.1 ++ ([(api_Act.mk 6 0 0 v_32.Val)] : List api_Act)) fun v_42 => letK (wr .i64 (s_26.2 + 1)) fun v_43 => some (Sum.inl (v_42, v_43))) else none) else ((thread_Acts_1.m s_26.2 a_1).bind fun r_44 => if r_44 = true then (letK (wr .i64 (v_32.Pair - 1)) fun v_47 => if 0 ≤ v_47 ∧ v_47 < (a_1.length : Int) then (letK (gi a_1 v_47) fun v_49 => if (s_26.1.length + ([(api_Act.mk 5 v_32.Loc v_49.Val v_32.Val)] : List api_Act).length) * 32 ≤ 140737488355328 then (letK (s_26.1 ++ ([(api_Act.mk 5 v_32.Loc v_49.Val v_32.Val)] : List api_Act)) fun v_51 => letK (wr .i64 (s_26.2 + 1)) fun v_52 => some (Sum.inl (v_51, v_52))) else none) else none) else ((if v_32.Kind = 1 then (match aget o_6 s_26.2 with | none => (some (o_33 : Bool)) | some v_57 => (if v_57 = 0 then (some (o_33 : Bool)) else (some (false : Bool)))) else (some (false : Bool)) : Option Bool).bind fun o_53 => if o_53 = true then (if (s_26.1.length + ([(api_Act.mk 3 v_32.Loc v_32.Val 0)] : List api_Act).length) * 32 ≤ 140737488355328 then (letK (s_26.1 ++ ([(api_Act.mk 3 v_32.Loc v_32.Val 0)] : List api_Act)) fun v_63 => letK (wr .i64 (s_26.2 + 1)) fun v_64 => some (Sum.inl (v_63, v_64))) else none) else ((if v_32.Kind = 1 then (match aget o_6 s_26.2 with | none => (some (true : Bool)) | some v_69 => (some ((decide (v_69 = 0)) : Bool))) else (some (false : Bool)) : Option Bool).bind fun o_65 => if o_65 = true then (if (s_26.1.length + ([(api_Act.mk 1 v_32.Loc v_32.Val 0)] : List api_Act).length) * 32 ≤ 140737488355328 then (letK (s_26.1 ++ ([(api_Act.mk 1 v_32.Loc v_32.Val 0)] : List api_Act)) fun v_74 => letK (wr .i64 (s_26.2 + 1)) fun v_75 => some (Sum.inl (v_74, v_75))) else none) else ((if v_32.Kind = 2 then (some (o_33 : Bool)) else (some (false : Bool)) : Option Bool).bind fun o_76 => if o_76 = true then (if (s_26.1.length + ([(api_Act.mk 4 v_32.Loc 0 v_32.Val)] : List api_Act).length) * 32 ≤ 140737488355328 then (letK (s_26.1 ++ ([(api_Act.mk 4 v_32.Loc 0 v_32.Val)] : List api_Act)) fun v_82 => letK (wr .i64 (s_26.2 + 1)) fun v_83 => some (Sum.inl (v_82, v_83))) else none) else (if v_32.Kind = 2 then (if (s_26.1.length + ([(api_Act.mk 2 v_32.Loc 0 v_32.Val)] : List api_Act).length) * 32 ≤ 140737488355328 then (letK (s_26.1 ++ ([(api_Act.mk 2 v_32.Loc 0 v_32.Val)] : List api_Act)) fun v_86 => letK (wr .i64 (s_26.2 + 1)) fun v_87 => some (Sum.inl (v_86, v_87))) else none) else (letK (wr .i64 (s_26.2 + 1)) fun v_88 => some (Sum.inl (s_26.1, v_88))))))))) else none) else (some (Sum.inr s_26.1))
theorem thread_Acts.k2_le (a_1 : List api_Event) (a_2 : List api_Loc) (o_6 : List (Int × Int)) (s_26 : (List api_Act) × Int) : OLe (thread_Acts.k2 a_1 a_2 o_6 s_26) (thread_Acts.l2 a_1 a_2 o_6 s_26) := by
 unfold thread_Acts.k2 thread_Acts.l2
 repeat' with_reducible first | refine OLe.lt (fun _ => ?_) | refine OLe.lp (fun _ => ?_) | refine OLe.bind ?_ (fun _ => ?_) | refine OLe.ite ?_ ?_ | exact OLe.rfl' | split
 all_goals try simp_all only [Option.some.injEq, reduceCtorEq]
 all_goals try subst_vars
 repeat' with_reducible first | refine OLe.lt (fun _ => ?_) | refine OLe.lp (fun _ => ?_) | refine OLe.bind ?_ (fun _ => ?_) | refine OLe.ite ?_ ?_ | exact OLe.rfl' | split
 all_goals (exfalso; simp_all)
def thread_Acts.k1 (a_1 : List api_Event) (s_5 : (List (Int × Int)) × Int) : Option (((List (Int × Int)) × Int) ⊕ (List (Int × Int))) :=
 if s_5.2 < (a_1.length : Int) then (if 0 ≤ s_5.2 ∧ s_5.2 < (a_1.length : Int) then (letK (gi a_1 s_5.2) fun v_11 => (thread_Acts_1.m s_5.2 a_1).bind fun r_12 => if r_12 = true then (letK (wr .i64 (v_11.Pair - 1)) fun v_15 => match aget s_5.1 v_15 with | none => (letK (aset s_5.1 v_15 1) fun v_19 => letK (wr .i64 (s_5.2 + 1)) fun v_20 => some (Sum.inl (v_19, v_20))) | some v_16 => (letK (aset s_5.1 v_15 (wr .i64 (v_16 + 1))) fun v_21 => letK (wr .i64 (s_5.2 + 1)) fun v_22 => some (Sum.inl (v_21, v_22)))) else (letK (wr .i64 (s_5.2 + 1)) fun v_23 => some (Sum.inl (s_5.1, v_23)))) else none) else (some (Sum.inr s_5.1))
theorem thread_Acts.k1_le (a_1 : List api_Event) (s_5 : (List (Int × Int)) × Int) : OLe (thread_Acts.k1 a_1 s_5) (thread_Acts.l1 a_1 s_5) := by
 unfold thread_Acts.k1 thread_Acts.l1
 repeat' with_reducible first | exact thread_Acts.k2_le .. | refine OLe.lt (fun _ => ?_) | refine OLe.lp (fun _ => ?_) | refine OLe.bind ?_ (fun _ => ?_) | refine OLe.ite ?_ ?_ | exact OLe.rfl' | split
 all_goals try simp_all only [Option.some.injEq, reduceCtorEq]
 all_goals try subst_vars
 repeat' with_reducible first | exact thread_Acts.k2_le .. | refine OLe.lt (fun _ => ?_) | refine OLe.lp (fun _ => ?_) | refine OLe.bind ?_ (fun _ => ?_) | refine OLe.ite ?_ ?_ | exact OLe.rfl' | split
 all_goals (exfalso; simp_all)
def thread_Acts.k (a_1 : List api_Event) (a_2 : List api_Loc) : Option (List api_Act) :=
 (lpK (thread_Acts.k1 a_1) ((([] : List (Int × Int)), 0) : (List (Int × Int)) × Int)).bind fun o_6 => (lpK (thread_Acts.k2 a_1 a_2 o_6) ((([] : List api_Act), 0) : (List api_Act) × Int)).bind fun o_27 => some o_27
theorem thread_Acts.k_le (a_1 : List api_Event) (a_2 : List api_Loc) : OLe (thread_Acts.k a_1 a_2) (thread_Acts.m a_1 a_2) := by
 unfold thread_Acts.k thread_Acts.m
 repeat' with_reducible first | exact thread_Acts.k2_le .. | exact thread_Acts.k1_le .. | refine OLe.lt (fun _ => ?_) | refine OLe.lp (fun _ => ?_) | refine OLe.bind ?_ (fun _ => ?_) | refine OLe.ite ?_ ?_ | exact OLe.rfl' | split
noncomputable def selvageref08_Same.F : FI Try.prog 19 := fi Try.f19 26 Try.call19 Try.func19
def selvageref08_Same.l1 (a_1 : List api_Act) (a_2 : List api_Act) (s_7 : Int) : Option (Int ⊕ (Unit ⊕ Unit)) :=
 if s_7 < (a_1.length : Int) then (if 0 ≤ s_7 ∧ s_7 < (a_1.length : Int) then (letC (gi a_1 s_7) fun v_15 => if 0 ≤ s_7 ∧ s_7 < (a_2.length : Int) then (letC (gi a_2 s_7) fun v_17 => if ((v_15.Kind == v_17.Kind) && ((v_15.Loc == v_17.Loc) && ((v_15.Old == v_17.Old) && ((v_15.New == v_17.New) && true)))) = true then (some (Sum.inl (wr .i64 (s_7 + 1)))) else (some (Sum.inr (Sum.inl ())))) else none) else none) else (some (Sum.inr (Sum.inr (()))))
def selvageref08_Same.m (a_1 : List api_Act) (a_2 : List api_Act) (a_3 : Nat) : Option (Bool) :=
 if (a_1.length : Int) = (a_2.length : Int) then ((B.loop (selvageref08_Same.l1 a_1 a_2) (0 : Int)).bind fun o_8 => match o_8 with | Sum.inl s_11 => (some false) | Sum.inr (s_12) => (some true)) else (some false)
noncomputable def selvageref08_Same.o (a_1 : List api_Act) (a_2 : List api_Act) (a_3 : Nat) (r : Bool) : Out := .ret (.v (.bool r)) [.dead, .dead] []
theorem selvageref08_Same.ev {a_1 : List api_Act} {a_2 : List api_Act} {a_3 : Nat} {r : Bool} (H : selvageref08_Same.m a_1 a_2 a_3 = some r) : Ev Try.prog 19 [sL 0 a_1, .sl 0 1 a_3 0 a_3] [.arr true 64 4 a_1.length (a_1.map api_Act.c), .arr false 64 4 a_3 (a_2.map api_Act.c)] [] (selvageref08_Same.o a_1 a_2 a_3 r) := by
 unfold selvageref08_Same.m at H
 rcases ic H with ⟨h_4, H⟩ | ⟨h_4, H⟩
 ·obtain ⟨o_8, e_9, H⟩ := bdE H
  have j_10 := Runs.loop (P := Try.prog) (N := selvageref08_Same.F.N) (m0 := 2) (c := sub_ selvageref08_Same.F.c [1, 1, 0, 1, 0, 0]) (f := (selvageref08_Same.l1 a_1 a_2)) (St := fun s_7 => ⟨[(0, .ro false 4 a_1.length (a_1.map api_Act.c)), (1, .ro false 4 a_2.length (a_2.map api_Act.c)), (5, vi s_7)], [.dead, .dead], []⟩) (xo := (fun o => match o with | Sum.inl _ => .ret | Sum.inr (_) => (.exit 0) : (Unit ⊕ Unit) → Ex)) (So := (fun o => match o with | Sum.inl s_11 => ⟨[(4, .v (.bool false))], [.dead, .dead], []⟩ | Sum.inr (s_12) => ⟨[], [.dead, .dead], []⟩ : (Unit ⊕ Unit) → ASt)) (by intro o; rcases o with _ | _ <;> simp) (fun s_7 z H => by
   unfold selvageref08_Same.l1 at H
   rcases ic H with ⟨h_13, H⟩ | ⟨h_13, H⟩
   ·obtain ⟨g_14, H⟩ := gdE H
    let v_15 : api_Act := gi a_1 s_7
    replace H := ltD H
    obtain ⟨g_16, H⟩ := gdE H
    let v_17 : api_Act := gi a_2 s_7
    replace H := ltD H
    rcases ie H with ⟨h_18, H⟩ | ⟨h_18, H⟩
    ·obtain rfl := sj H
     exact fn [br h_13, ix api_Act.c g_14, ix api_Act.c g_16, eqs (P := Try.prog) (xt := 64) ⟨by kernel_rfl, by kernel_rfl⟩, bn h_18]
    ·obtain rfl := sj H
     exact fn [br h_13, ix api_Act.c g_14, ix api_Act.c g_16, eqs (P := Try.prog) (xt := 64) ⟨by kernel_rfl, by kernel_rfl⟩, bn h_18]
   ·obtain rfl := sj H
    exact fn [br h_13] (by kernel_rfl)) e_9
  rcases o_8 with s_11 | s_12
  ·obtain rfl := sj H
   exact selvageref08_Same.F.run tb mixed [here 0, frz 0 [0] [], frz 1 [1] [], ron 1 none api_Act.c a_2, bn h_4, su j_10] rfl (by kernel_rfl)
  ·obtain rfl := sj H
   exact selvageref08_Same.F.run tb mixed [here 0, frz 0 [0] [], frz 1 [1] [], ron 1 none api_Act.c a_2, bn h_4, su j_10] rfl (by kernel_rfl)
 ·obtain rfl := sj H
  exact selvageref08_Same.F.run tb mixed [here 0, frz 0 [0] [], frz 1 [1] [], ron 1 none api_Act.c a_2, bn h_4] rfl (by kernel_rfl)
def selvageref08_Same.k1 (a_1 : List api_Act) (a_2 : List api_Act) (s_7 : Int) : Option (Int ⊕ (Unit ⊕ Unit)) :=
 if s_7 < (a_1.length : Int) then (if 0 ≤ s_7 ∧ s_7 < (a_1.length : Int) then (letK (gi a_1 s_7) fun v_15 => if 0 ≤ s_7 ∧ s_7 < (a_2.length : Int) then (letK (gi a_2 s_7) fun v_17 => if ((v_15.Kind == v_17.Kind) && ((v_15.Loc == v_17.Loc) && ((v_15.Old == v_17.Old) && ((v_15.New == v_17.New) && true)))) = true then (some (Sum.inl (wr .i64 (s_7 + 1)))) else (some (Sum.inr (Sum.inl ())))) else none) else none) else (some (Sum.inr (Sum.inr (()))))
theorem selvageref08_Same.k1_le (a_1 : List api_Act) (a_2 : List api_Act) (s_7 : Int) : OLe (selvageref08_Same.k1 a_1 a_2 s_7) (selvageref08_Same.l1 a_1 a_2 s_7) := by
 unfold selvageref08_Same.k1 selvageref08_Same.l1
 repeat' with_reducible first | refine OLe.lt (fun _ => ?_) | refine OLe.lp (fun _ => ?_) | refine OLe.bind ?_ (fun _ => ?_) | refine OLe.ite ?_ ?_ | exact OLe.rfl' | split
def selvageref08_Same.k (a_1 : List api_Act) (a_2 : List api_Act) (a_3 : Nat) : Option (Bool) :=
 if (a_1.length : Int) = (a_2.length : Int) then ((lpK (selvageref08_Same.k1 a_1 a_2) (0 : Int)).bind fun o_8 => match o_8 with | Sum.inl s_11 => (some false) | Sum.inr (s_12) => (some true)) else (some false)
theorem selvageref08_Same.k_le (a_1 : List api_Act) (a_2 : List api_Act) (a_3 : Nat) : OLe (selvageref08_Same.k a_1 a_2 a_3) (selvageref08_Same.m a_1 a_2 a_3) := by
 unfold selvageref08_Same.k selvageref08_Same.m
 repeat' with_reducible first | exact selvageref08_Same.k1_le .. | refine OLe.lt (fun _ => ?_) | refine OLe.lp (fun _ => ?_) | refine OLe.bind ?_ (fun _ => ?_) | refine OLe.ite ?_ ?_ | exact OLe.rfl' | split
 all_goals (exfalso; simp_all)
noncomputable def selvagelaw17_awake.F : FI Try.prog 7 := fi Try.f7 35 Try.call7 Try.func7
def selvagelaw17_awake.m : Option (Bool) :=
 if 0 ≤ (1 : Int) ∧ (1 : Int) ≤ 1 ∧ (1 : Int) * (16 : Nat) ≤ 140737488355328 then (letC (List.replicate (1 : Int).toNat ((api_Loc.mk false 0) : api_Loc)) fun v_2 => (emit_Emit.m v_2 3 ([(api_Ins.mk 6 0 0 0 0 0 0 0), (api_Ins.mk 15 0 0 0 0 0 0 0), (api_Ins.mk 18 0 0 0 0 0 0 0)] : List api_Ins) 3).bind fun r_3 => match r_3 with | Sum.inl r_5 => ((thread_Do.m r_5 1 0 ([7] : List Int) 1).bind fun r_8 => match r_8 with | Sum.inl r_10 => (some false) | Sum.inr (r_11) => (if r_11.2 = 1 then ((thread_Acts.m r_11.1 v_2).bind fun r_13 => (selvageref08_Same.m r_13 ([(api_Act.mk 1 0 7 0), (api_Act.mk 6 0 0 7)] : List api_Act) 2).bind fun r_15 => some r_15) else (some false))) | Sum.inr (Sum.inl r_6) => ((thread_Do.m ([] : List api_Inst) 1 0 ([7] : List Int) 1).bind fun r_17 => match r_17 with | Sum.inl r_19 => (if r_6 = 0 then (some false) else (some false)) | Sum.inr (r_20) => (if r_6 = 0 then (if r_20.2 = 1 then ((thread_Acts.m r_20.1 v_2).bind fun r_24 => (selvageref08_Same.m r_24 ([(api_Act.mk 1 0 7 0), (api_Act.mk 6 0 0 7)] : List api_Act) 2).bind fun r_26 => some r_26) else (some false)) else (some false))) | Sum.inr (Sum.inr (r_7)) => ((thread_Do.m r_7.1 1 0 ([7] : List Int) 1).bind fun r_28 => match r_28 with | Sum.inl r_30 => (some false) | Sum.inr (r_31) => (if r_31.2 = 1 then ((thread_Acts.m r_31.1 v_2).bind fun r_33 => (selvageref08_Same.m r_33 ([(api_Act.mk 1 0 7 0), (api_Act.mk 6 0 0 7)] : List api_Act) 2).bind fun r_35 => some r_35) else (some false)))) else none
noncomputable def selvagelaw17_awake.o (r : Bool) : Out := .ret (.v (.bool r)) [] []
theorem selvagelaw17_awake.ev {r : Bool} (H : selvagelaw17_awake.m = some r) : Ev Try.prog 7 [] [] [] (selvagelaw17_awake.o r) := by
 unfold selvagelaw17_awake.m at H
 obtain ⟨g_1, H⟩ := gdE H
 let v_2 : List api_Loc := List.replicate (1 : Int).toNat ((api_Loc.mk false 0) : api_Loc)
 replace H := ltD H
 obtain ⟨r_3, e_4, H⟩ := bdE H
 rcases r_3 with r_5 | r_6 | r_7
 ·obtain ⟨r_8, e_9, H⟩ := bdE H
  rcases r_8 with r_10 | r_11
  ·obtain rfl := sj H
   exact selvagelaw17_awake.F.run tb mixed [mk api_Loc.c ((api_Loc.mk false 0) : api_Loc) (api_Loc.c (api_Loc.mk false 0)) 16 (1 : Int) (1 : Int) g_1 rfl, here 2, frz 0 [1] [], ron 1 none api_Loc.c v_2, ca [1] (emit_Emit.ev e_4), here 3, frz 3 [2] [], ca [4] (thread_Do.ev e_9), au, pT, au, pF] rfl (by kernel_rfl)
  ·rcases ic H with ⟨h_12, H⟩ | ⟨h_12, H⟩
   ·obtain ⟨r_13, e_14, H⟩ := bdE H
    obtain ⟨r_15, e_16, H⟩ := bdE H
    obtain rfl := sj H
    exact selvagelaw17_awake.F.run tb mixed [mk api_Loc.c ((api_Loc.mk false 0) : api_Loc) (api_Loc.c (api_Loc.mk false 0)) 16 (1 : Int) (1 : Int) g_1 rfl, here 2, frz 0 [1] [], ron 1 none api_Loc.c v_2, ca [1] (emit_Emit.ev e_4), here 3, frz 3 [2] [], ca [4] (thread_Do.ev e_9), here 4, frz 8 [] [(9, 0)], au, pT, br h_12, ca [] (thread_Acts.ev e_14), ca [12, 13] (selvageref08_Same.ev e_16), pT] rfl (by kernel_rfl)
   ·obtain rfl := sj H
    exact selvagelaw17_awake.F.run tb mixed [mk api_Loc.c ((api_Loc.mk false 0) : api_Loc) (api_Loc.c (api_Loc.mk false 0)) 16 (1 : Int) (1 : Int) g_1 rfl, here 2, frz 0 [1] [], ron 1 none api_Loc.c v_2, ca [1] (emit_Emit.ev e_4), here 3, frz 3 [2] [], ca [4] (thread_Do.ev e_9), here 4, frz 8 [] [(9, 0)], au, pT, br h_12, pF] rfl (by kernel_rfl)
 ·obtain ⟨r_17, e_18, H⟩ := bdE H
  rcases r_17 with r_19 | r_20
  ·rcases ic H with ⟨h_21, H⟩ | ⟨h_21, H⟩
   ·obtain rfl := sj H
    exact selvagelaw17_awake.F.run tb mixed [mk api_Loc.c ((api_Loc.mk false 0) : api_Loc) (api_Loc.c (api_Loc.mk false 0)) 16 (1 : Int) (1 : Int) g_1 rfl, here 2, frz 0 [1] [], ron 1 none api_Loc.c v_2, ca [1] (emit_Emit.ev e_4), on_ 2 (nzm 5), ca [2] (thread_Do.ev e_18), br h_21, pT, au, pF] rfl (by kernel_rfl)
   ·obtain rfl := sj H
    exact selvagelaw17_awake.F.run tb mixed [mk api_Loc.c ((api_Loc.mk false 0) : api_Loc) (api_Loc.c (api_Loc.mk false 0)) 16 (1 : Int) (1 : Int) g_1 rfl, here 2, frz 0 [1] [], ron 1 none api_Loc.c v_2, ca [1] (emit_Emit.ev e_4), on_ 2 (nzm 5), ca [2] (thread_Do.ev e_18), br h_21, pF, au, pF] rfl (by kernel_rfl)
  ·rcases ic H with ⟨h_22, H⟩ | ⟨h_22, H⟩
   ·rcases ic H with ⟨h_23, H⟩ | ⟨h_23, H⟩
    ·obtain ⟨r_24, e_25, H⟩ := bdE H
     obtain ⟨r_26, e_27, H⟩ := bdE H
     obtain rfl := sj H
     exact selvagelaw17_awake.F.run tb mixed [mk api_Loc.c ((api_Loc.mk false 0) : api_Loc) (api_Loc.c (api_Loc.mk false 0)) 16 (1 : Int) (1 : Int) g_1 rfl, here 2, frz 0 [1] [], ron 1 none api_Loc.c v_2, ca [1] (emit_Emit.ev e_4), on_ 2 (nzm 5), ca [2] (thread_Do.ev e_18), here 4, frz 6 [] [(7, 0)], br h_22, pT, br h_23, ca [] (thread_Acts.ev e_25), ca [10, 11] (selvageref08_Same.ev e_27), pT] rfl (by kernel_rfl)
    ·obtain rfl := sj H
     exact selvagelaw17_awake.F.run tb mixed [mk api_Loc.c ((api_Loc.mk false 0) : api_Loc) (api_Loc.c (api_Loc.mk false 0)) 16 (1 : Int) (1 : Int) g_1 rfl, here 2, frz 0 [1] [], ron 1 none api_Loc.c v_2, ca [1] (emit_Emit.ev e_4), on_ 2 (nzm 5), ca [2] (thread_Do.ev e_18), here 4, frz 6 [] [(7, 0)], br h_22, pT, br h_23, pF] rfl (by kernel_rfl)
   ·obtain rfl := sj H
    exact selvagelaw17_awake.F.run tb mixed [mk api_Loc.c ((api_Loc.mk false 0) : api_Loc) (api_Loc.c (api_Loc.mk false 0)) 16 (1 : Int) (1 : Int) g_1 rfl, here 2, frz 0 [1] [], ron 1 none api_Loc.c v_2, ca [1] (emit_Emit.ev e_4), on_ 2 (nzm 5), ca [2] (thread_Do.ev e_18), here 4, frz 6 [] [(7, 0)], br h_22, pF, au, pF] rfl (by kernel_rfl)
 ·obtain ⟨r_28, e_29, H⟩ := bdE H
  rcases r_28 with r_30 | r_31
  ·obtain rfl := sj H
   exact selvagelaw17_awake.F.run tb mixed [mk api_Loc.c ((api_Loc.mk false 0) : api_Loc) (api_Loc.c (api_Loc.mk false 0)) 16 (1 : Int) (1 : Int) g_1 rfl, here 2, frz 0 [1] [], ron 1 none api_Loc.c v_2, ca [1] (emit_Emit.ev e_4), here 3, frz 4 [2] [], ron 2 none api_Inst.c r_7.1, ca [5] (thread_Do.ev e_29), au, pT, au, pF] rfl (by kernel_rfl)
  ·rcases ic H with ⟨h_32, H⟩ | ⟨h_32, H⟩
   ·obtain ⟨r_33, e_34, H⟩ := bdE H
    obtain ⟨r_35, e_36, H⟩ := bdE H
    obtain rfl := sj H
    exact selvagelaw17_awake.F.run tb mixed [mk api_Loc.c ((api_Loc.mk false 0) : api_Loc) (api_Loc.c (api_Loc.mk false 0)) 16 (1 : Int) (1 : Int) g_1 rfl, here 2, frz 0 [1] [], ron 1 none api_Loc.c v_2, ca [1] (emit_Emit.ev e_4), here 3, frz 4 [2] [], ron 2 none api_Inst.c r_7.1, ca [5] (thread_Do.ev e_29), here 4, frz 9 [] [(10, 0)], au, pT, br h_32, ca [] (thread_Acts.ev e_34), ca [13, 14] (selvageref08_Same.ev e_36), pT] rfl (by kernel_rfl)
   ·obtain rfl := sj H
    exact selvagelaw17_awake.F.run tb mixed [mk api_Loc.c ((api_Loc.mk false 0) : api_Loc) (api_Loc.c (api_Loc.mk false 0)) 16 (1 : Int) (1 : Int) g_1 rfl, here 2, frz 0 [1] [], ron 1 none api_Loc.c v_2, ca [1] (emit_Emit.ev e_4), here 3, frz 4 [2] [], ron 2 none api_Inst.c r_7.1, ca [5] (thread_Do.ev e_29), here 4, frz 9 [] [(10, 0)], au, pT, br h_32, pF] rfl (by kernel_rfl)
def selvagelaw17_awake.k : Option (Bool) :=
 if 0 ≤ (1 : Int) ∧ (1 : Int) ≤ 1 ∧ (1 : Int) * (16 : Nat) ≤ 140737488355328 then (letK (List.replicate (1 : Int).toNat ((api_Loc.mk false 0) : api_Loc)) fun v_2 => (emit_Emit.k v_2 3 ([(api_Ins.mk 6 0 0 0 0 0 0 0), (api_Ins.mk 15 0 0 0 0 0 0 0), (api_Ins.mk 18 0 0 0 0 0 0 0)] : List api_Ins) 3).bind fun r_3 => match r_3 with | Sum.inl r_5 => ((thread_Do.k r_5 1 0 ([7] : List Int) 1).bind fun r_8 => match r_8 with | Sum.inl r_10 => (some false) | Sum.inr (r_11) => (if r_11.2 = 1 then ((thread_Acts.k r_11.1 v_2).bind fun r_13 => (selvageref08_Same.k r_13 ([(api_Act.mk 1 0 7 0), (api_Act.mk 6 0 0 7)] : List api_Act) 2).bind fun r_15 => some r_15) else (some false))) | Sum.inr (Sum.inl r_6) => ((thread_Do.k ([] : List api_Inst) 1 0 ([7] : List Int) 1).bind fun r_17 => match r_17 with | Sum.inl r_19 => (if r_6 = 0 then (some false) else (some false)) | Sum.inr (r_20) => (if r_6 = 0 then (if r_20.2 = 1 then ((thread_Acts.k r_20.1 v_2).bind fun r_24 => (selvageref08_Same.k r_24 ([(api_Act.mk 1 0 7 0), (api_Act.mk 6 0 0 7)] : List api_Act) 2).bind fun r_26 => some r_26) else (some false)) else (some false))) | Sum.inr (Sum.inr (r_7)) => ((thread_Do.k r_7.1 1 0 ([7] : List Int) 1).bind fun r_28 => match r_28 with | Sum.inl r_30 => (some false) | Sum.inr (r_31) => (if r_31.2 = 1 then ((thread_Acts.k r_31.1 v_2).bind fun r_33 => (selvageref08_Same.k r_33 ([(api_Act.mk 1 0 7 0), (api_Act.mk 6 0 0 7)] : List api_Act) 2).bind fun r_35 => some r_35) else (some false)))) else none
theorem selvagelaw17_awake.k_le : OLe (selvagelaw17_awake.k ) (selvagelaw17_awake.m ) := by
 unfold selvagelaw17_awake.k selvagelaw17_awake.m
 repeat' with_reducible first | exact emit_Emit.k_le .. | exact thread_Do.k_le .. | exact thread_Acts.k_le .. | exact selvageref08_Same.k_le .. | refine OLe.lt (fun _ => ?_) | refine OLe.lp (fun _ => ?_) | refine OLe.bind ?_ (fun _ => ?_) | refine OLe.ite ?_ ?_ | exact OLe.rfl' | split
 all_goals (exfalso; simp_all)
theorem selvagelaw17_awake_eq : selvagelaw17_awake.m = some true := selvagelaw17_awake.k_le.to (by kernel_rfl)
noncomputable def selvagelaw17_small.F : FI Try.prog 8 := fi Try.f8 20 Try.call8 Try.func8
def selvagelaw17_small.m (a_1 : List api_Ins) (a_2 : List api_Loc) (a_3 : List Int) : Bool :=
 if (a_1.length : Int) ≤ 410 then (if (a_2.length : Int) ≤ 16 then ((decide ((a_3.length : Int) ≤ 200))) else (false)) else (false)
noncomputable def selvagelaw17_small.o (a_1 : List api_Ins) (a_2 : List api_Loc) (a_3 : List Int) (r : Bool) : Out := .ret (.v (.bool r)) [] []
theorem selvagelaw17_small.ev {a_1 : List api_Ins} {a_2 : List api_Loc} {a_3 : List Int} {r : Bool} (H : selvagelaw17_small.m a_1 a_2 a_3 = r) : Ev Try.prog 8 [.ro false 8 a_1.length (a_1.map api_Ins.c), .ro false 2 a_2.length (a_2.map api_Loc.c), .ro false 1 a_3.length (a_3.map (cI .i64))] [] [] (selvagelaw17_small.o a_1 a_2 a_3 r) := by
 unfold selvagelaw17_small.m at H
 rcases ic H with ⟨h_4, H⟩ | ⟨h_4, H⟩
 ·rcases ic H with ⟨h_5, H⟩ | ⟨h_5, H⟩
  ·subst H
   exact selvagelaw17_small.F.run tb mixed [br h_4, pT, br h_5, pT] rfl (by kernel_rfl)
  ·subst H
   exact selvagelaw17_small.F.run tb mixed [br h_4, pT, br h_5, pF] rfl (by kernel_rfl)
 ·subst H
  exact selvagelaw17_small.F.run tb mixed [br h_4, pF, au, pF] rfl (by kernel_rfl)
noncomputable def emit_Emit_2.F : FI Try.prog 10 := fi Try.f10 86 Try.call10 Try.func10
def emit_Emit_2.l2 (s_24 : Unit) : Option (Unit ⊕ Unit) :=
 some (Sum.inr ())
def emit_Emit_2.l1 (a_1 : List api_Ins) (s_11 : (List api_Inst) × (List Int) × Int) : Option (((List api_Inst) × (List Int) × Int) ⊕ ((List api_Inst) × (List Int))) :=
 if s_11.2.2 < (a_1.length : Int) then (if 0 ≤ s_11.2.2 ∧ s_11.2.2 < (a_1.length : Int) then (letC (gi a_1 s_11.2.2) fun v_17 => if (s_11.2.1.length + ([(s_11.1.length : Int)] : List Int).length) * 8 ≤ 140737488355328 then (letC (s_11.2.1 ++ ([(s_11.1.length : Int)] : List Int)) fun v_19 => (emit_writer_piece_3.m v_17 s_11.1 v_19).bind fun r_20 => letC (wr .i64 (s_11.2.2 + 1)) fun v_22 => some (Sum.inl (r_20, v_19, v_22))) else none) else none) else (some (Sum.inr (s_11.1, s_11.2.1)))
def emit_Emit_2.l4 (o_31 : (List api_Inst) × (List Int) × (List emit_jump)) (s_44 : (List api_Inst) × Int) : Option (((List api_Inst) × Int) ⊕ (List api_Inst)) :=
 if s_44.2 < (o_31.2.2.length : Int) then (if 0 ≤ s_44.2 ∧ s_44.2 < (o_31.2.2.length : Int) then (letC (gi o_31.2.2 s_44.2) fun v_50 => if 0 ≤ v_50.to_ ∧ v_50.to_ < (o_31.2.1.length : Int) then (letC (gi o_31.2.1 v_50.to_) fun v_52 => letC (wr .i64 (v_52 - v_50.from_)) fun v_53 => if 0 ≤ v_50.from_ ∧ v_50.from_ < (o_31.1.length : Int) then (if 0 ≤ v_50.from_ ∧ v_50.from_ < (s_44.1.length : Int) then (letC (gi s_44.1 v_50.from_) fun v_56 => letC (s_44.1.set v_50.from_.toNat (api_Inst.mk v_56.Op v_56.T v_56.A v_56.B (wr .i64 ((4 : Int) * v_53)))) fun v_57 => letC (wr .i64 (s_44.2 + 1)) fun v_58 => some (Sum.inl (v_57, v_58))) else none) else none) else none) else none) else (some (Sum.inr s_44.1))
def emit_Emit_2.l3 (a_1 : List api_Ins) (r_7 : (List api_Home) × Nat) (s_30 : (List api_Inst) × (List Int) × (List emit_jump) × Int) : Option (((List api_Inst) × (List Int) × (List emit_jump) × Int) ⊕ ((List api_Inst) × (List Int) × (List emit_jump))) :=
 if s_30.2.2.2 < (a_1.length : Int) then (if 0 ≤ s_30.2.2.2 ∧ s_30.2.2.2 < (a_1.length : Int) then (letC (gi a_1 s_30.2.2.2) fun v_36 => if (s_30.2.1.length + ([(s_30.1.length : Int)] : List Int).length) * 8 ≤ 140737488355328 then (letC (s_30.2.1 ++ ([(s_30.1.length : Int)] : List Int)) fun v_38 => (emit_writer_piece_7.m v_36 r_7.1 r_7.2 s_30.1 v_38 s_30.2.2.1).bind fun r_39 => letC (wr .i64 (s_30.2.2.2 + 1)) fun v_41 => some (Sum.inl (r_39.1, v_38, r_39.2, v_41))) else none) else none) else (some (Sum.inr (s_30.1, s_30.2.1, s_30.2.2.1)))
def emit_Emit_2.m (a_1 : List api_Ins) (a_2 : List api_Loc) (a_3 : Int) : Option ((List api_Inst) ⊕ Int ⊕ ((List api_Inst) × Nat)) :=
 (alloc_Homes.m a_1 a_2 a_3).bind fun r_4 => match r_4 with | Sum.inl r_6 => (if r_6 = 0 then ((B.loop (emit_Emit_2.l1 a_1) ((([] : List api_Inst), ([] : List Int), 0) : (List api_Inst) × (List Int) × Int)).bind fun o_12 => (B.loop emit_Emit_2.l2 (() : Unit)).bind fun o_25 => some (Sum.inl o_12.1)) else (some (Sum.inr (Sum.inl r_6)))) | Sum.inr (r_7) => ((B.loop (emit_Emit_2.l3 a_1 r_7) ((([] : List api_Inst), ([] : List Int), ([] : List emit_jump), 0) : (List api_Inst) × (List Int) × (List emit_jump) × Int)).bind fun o_31 => (B.loop (emit_Emit_2.l4 o_31) ((o_31.1, 0) : (List api_Inst) × Int)).bind fun o_45 => some (Sum.inr (Sum.inr ((o_45, o_31.1.length)))))
noncomputable def emit_Emit_2.o (a_1 : List api_Ins) (a_2 : List api_Loc) (a_3 : Int) (r : (List api_Inst) ⊕ Int ⊕ ((List api_Inst) × Nat)) : Out := match r with | Sum.inl r => .ret (.tup [sL 1 r, vi 0]) [.dead, .arr true 39 5 r.length (r.map api_Inst.c)] [] | Sum.inr (Sum.inl r) => .ret (.tup [.v (.slice none 0 0), vi r]) [] [] | Sum.inr (Sum.inr (r)) => .ret (.tup [.sl 0 2 r.2 0 r.2, vi 0]) [.dead, .dead, .arr true 39 5 r.2 (r.1.map api_Inst.c)] []
theorem emit_Emit_2.ev {a_1 : List api_Ins} {a_2 : List api_Loc} {a_3 : Int} {r : (List api_Inst) ⊕ Int ⊕ ((List api_Inst) × Nat)} (H : emit_Emit_2.m a_1 a_2 a_3 = some r) : Ev Try.prog 10 [.ro false 8 a_1.length (a_1.map api_Ins.c), .ro false 2 a_2.length (a_2.map api_Loc.c), vi a_3] [] [] (emit_Emit_2.o a_1 a_2 a_3 r) := by
 unfold emit_Emit_2.m at H
 obtain ⟨r_4, e_5, H⟩ := bdE H
 rcases r_4 with r_6 | r_7
 ·rcases ic H with ⟨h_8, H⟩ | ⟨h_8, H⟩
  ·obtain ⟨o_12, e_13, H⟩ := bdE H
   have j_14 := Runs.loop (P := Try.prog) (N := emit_Emit_2.F.N) (m0 := 0) (c := sub_ emit_Emit_2.F.c [1, 1, 1, 1, 0, 1, 0, 0]) (f := (emit_Emit_2.l1 a_1)) (St := fun s_11 => ⟨[(10, .ref 0 0), (28, .ro false 8 a_1.length (a_1.map api_Ins.c)), (29, vi (a_1.length : Int)), (30, vi s_11.2.2)], [.box [.v (.slice none 0 0), sL 1 s_11.1, sL 2 s_11.2.1, .v (.slice none 0 0)], .arr true 39 5 s_11.1.length (s_11.1.map api_Inst.c), .arr true 3 1 s_11.2.1.length (s_11.2.1.map (cI .i64))], []⟩) (xo := (fun _ => (.exit 0) : ((List api_Inst) × (List Int)) → Ex)) (So := (fun o_12 => ⟨[(10, .ref 0 0)], [.box [.v (.slice none 0 0), sL 1 o_12.1, sL 2 o_12.2, .v (.slice none 0 0)], .arr true 39 5 o_12.1.length (o_12.1.map api_Inst.c), .arr true 3 1 o_12.2.length (o_12.2.map (cI .i64))], []⟩ : ((List api_Inst) × (List Int)) → ASt)) (by intro o; simp) (fun s_11 z H => by
    unfold emit_Emit_2.l1 at H
    rcases ic H with ⟨h_15, H⟩ | ⟨h_15, H⟩
    ·obtain ⟨g_16, H⟩ := gdE H
     let v_17 : api_Ins := gi a_1 s_11.2.2
     replace H := ltD H
     obtain ⟨g_18, H⟩ := gdE H
     let v_19 : List Int := s_11.2.1 ++ ([(s_11.1.length : Int)] : List Int)
     replace H := ltD H
     obtain ⟨r_20, e_21, H⟩ := bdE H
     let v_22 : Int := wr .i64 (s_11.2.2 + 1)
     replace H := ltD H
     obtain rfl := sj H
     exact fn [br h_15, ix api_Ins.c g_16, ap (cI .i64) 8 false s_11.2.1 ([(s_11.1.length : Int)] : List Int) g_18 (fun h => by cases h), ca [0, 1, 2] (emit_writer_piece_3.ev e_21)]
    ·obtain rfl := sj H
     exact fn [br h_15] (by kernel_rfl)) e_13
   obtain ⟨o_25, e_26, H⟩ := bdE H
   have j_27 := Runs.loop (P := Try.prog) (N := emit_Emit_2.F.N) (m0 := 0) (c := sub_ emit_Emit_2.F.c [1, 1, 1, 1, 1, 0, 1, 0, 0]) (f := emit_Emit_2.l2) (St := fun s_24 => ⟨[(10, .ref 0 0), (55, .v (.slice none 0 0)), (56, vi 0), (57, vi 0)], [.box [.v (.slice none 0 0), sL 1 o_12.1, sL 2 o_12.2, .v (.slice none 0 0)], .arr true 39 5 o_12.1.length (o_12.1.map api_Inst.c), .arr true 3 1 o_12.2.length (o_12.2.map (cI .i64))], []⟩) (xo := (fun _ => (.exit 2) : Unit → Ex)) (So := (fun o_25 => ⟨[(10, .ref 0 0)], [.box [.v (.slice none 0 0), sL 1 o_12.1, sL 2 o_12.2, .v (.slice none 0 0)], .arr true 39 5 o_12.1.length (o_12.1.map api_Inst.c), .arr true 3 1 o_12.2.length (o_12.2.map (cI .i64))], []⟩ : Unit → ASt)) (by intro o; simp) (fun s_24 z H => by
    unfold emit_Emit_2.l2 at H
    obtain rfl := sj H
    exact fn [au] (by kernel_rfl)) e_26
   obtain rfl := sj H
   exact emit_Emit_2.F.run tb mixed [ca [] (alloc_Homes.ev e_5), bn h_8, su j_14, adB 0 1 (some 39) 5, adB 0 2 (some 3) 1, su j_27] rfl (by kernel_rfl)
  ·obtain rfl := sj H
   exact emit_Emit_2.F.run tb mixed [ca [] (alloc_Homes.ev e_5), bn h_8] rfl (by kernel_rfl)
 ·obtain ⟨o_31, e_32, H⟩ := bdE H
  have j_33 := Runs.loop (P := Try.prog) (N := emit_Emit_2.F.N) (m0 := 0) (c := sub_ emit_Emit_2.F.c [1, 1, 1, 1, 0, 1, 0, 0]) (f := (emit_Emit_2.l3 a_1 r_7)) (St := fun s_30 => ⟨[(10, .ref 1 0), (28, .ro false 8 a_1.length (a_1.map api_Ins.c)), (29, vi (a_1.length : Int)), (30, vi s_30.2.2.2)], [.arr true 79 2 r_7.2 (r_7.1.map api_Home.c), .box [.sl 0 0 r_7.2 0 r_7.2, sL 2 s_30.1, sL 3 s_30.2.1, sL 4 s_30.2.2.1], .arr true 39 5 s_30.1.length (s_30.1.map api_Inst.c), .arr true 3 1 s_30.2.1.length (s_30.2.1.map (cI .i64)), .arr true 74 2 s_30.2.2.1.length (s_30.2.2.1.map emit_jump.c)], []⟩) (xo := (fun _ => (.exit 0) : ((List api_Inst) × (List Int) × (List emit_jump)) → Ex)) (So := (fun o_31 => ⟨[(10, .ref 1 0)], [.arr true 79 2 r_7.2 (r_7.1.map api_Home.c), .box [.sl 0 0 r_7.2 0 r_7.2, sL 2 o_31.1, sL 3 o_31.2.1, sL 4 o_31.2.2], .arr true 39 5 o_31.1.length (o_31.1.map api_Inst.c), .arr true 3 1 o_31.2.1.length (o_31.2.1.map (cI .i64)), .arr true 74 2 o_31.2.2.length (o_31.2.2.map emit_jump.c)], []⟩ : ((List api_Inst) × (List Int) × (List emit_jump)) → ASt)) (by intro o; simp) (fun s_30 z H => by
   unfold emit_Emit_2.l3 at H
   rcases ic H with ⟨h_34, H⟩ | ⟨h_34, H⟩
   ·obtain ⟨g_35, H⟩ := gdE H
    let v_36 : api_Ins := gi a_1 s_30.2.2.2
    replace H := ltD H
    obtain ⟨g_37, H⟩ := gdE H
    let v_38 : List Int := s_30.2.1 ++ ([(s_30.1.length : Int)] : List Int)
    replace H := ltD H
    obtain ⟨r_39, e_40, H⟩ := bdE H
    let v_41 : Int := wr .i64 (s_30.2.2.2 + 1)
    replace H := ltD H
    obtain rfl := sj H
    exact fn [br h_34, ix api_Ins.c g_35, ap (cI .i64) 8 false s_30.2.1 ([(s_30.1.length : Int)] : List Int) g_37 (fun h => by cases h), ca [1, 0, 2, 3, 4] (emit_writer_piece_7.ev e_40)]
   ·obtain rfl := sj H
    exact fn [br h_34] (by kernel_rfl)) e_32
  obtain ⟨o_45, e_46, H⟩ := bdE H
  have j_47 := Runs.loop (P := Try.prog) (N := emit_Emit_2.F.N) (m0 := 0) (c := sub_ emit_Emit_2.F.c [1, 1, 1, 1, 1, 0, 1, 0, 0]) (f := (emit_Emit_2.l4 o_31)) (St := fun s_44 => ⟨[(10, .ref 1 0), (55, sL 4 o_31.2.2), (56, vi (o_31.2.2.length : Int)), (57, vi s_44.2)], [.arr true 79 2 r_7.2 (r_7.1.map api_Home.c), .box [.sl 0 0 r_7.2 0 r_7.2, sL 2 o_31.1, sL 3 o_31.2.1, sL 4 o_31.2.2], .arr true 39 5 o_31.1.length (s_44.1.map api_Inst.c), .arr true 3 1 o_31.2.1.length (o_31.2.1.map (cI .i64)), .arr true 74 2 o_31.2.2.length (o_31.2.2.map emit_jump.c)], []⟩) (xo := (fun _ => (.exit 2) : (List api_Inst) → Ex)) (So := (fun o_45 => ⟨[(10, .ref 1 0)], [.arr true 79 2 r_7.2 (r_7.1.map api_Home.c), .box [.sl 0 0 r_7.2 0 r_7.2, sL 2 o_31.1, sL 3 o_31.2.1, sL 4 o_31.2.2], .arr true 39 5 o_31.1.length (o_45.map api_Inst.c), .arr true 3 1 o_31.2.1.length (o_31.2.1.map (cI .i64)), .arr true 74 2 o_31.2.2.length (o_31.2.2.map emit_jump.c)], []⟩ : (List api_Inst) → ASt)) (by intro o; simp) (fun s_44 z H => by
   unfold emit_Emit_2.l4 at H
   rcases ic H with ⟨h_48, H⟩ | ⟨h_48, H⟩
   ·obtain ⟨g_49, H⟩ := gdE H
    let v_50 : emit_jump := gi o_31.2.2 s_44.2
    replace H := ltD H
    obtain ⟨g_51, H⟩ := gdE H
    let v_52 : Int := gi o_31.2.1 v_50.to_
    replace H := ltD H
    let v_53 : Int := wr .i64 (v_52 - v_50.from_)
    replace H := ltD H
    obtain ⟨g_54, H⟩ := gdE H
    obtain ⟨g_55, H⟩ := gdE H
    let v_56 : api_Inst := gi s_44.1 v_50.from_
    replace H := ltD H
    let v_57 : List api_Inst := s_44.1.set v_50.from_.toNat (api_Inst.mk v_56.Op v_56.T v_56.A v_56.B (wr .i64 ((4 : Int) * v_53)))
    replace H := ltD H
    let v_58 : Int := wr .i64 (s_44.2 + 1)
    replace H := ltD H
    obtain rfl := sj H
    exact fn [br h_48, pf g_49, el emit_jump.c g_49, pf g_51, el (cI .i64) g_51, pf g_54, up api_Inst.c 4 [vi (wr .i64 ((4 : Int) * v_53))] (api_Inst.mk v_56.Op v_56.T v_56.A v_56.B (wr .i64 ((4 : Int) * v_53))) g_55 (by kernel_rfl)]
   ·obtain rfl := sj H
    exact fn [br h_48] (by kernel_rfl)) e_46
  obtain rfl := sj H
  exact emit_Emit_2.F.run tb mixed [ca [] (alloc_Homes.ev e_5), au, su j_33, adB 1 1 (some 39) 5, adB 1 2 (some 3) 1, adB 1 3 (some 74) 2, su j_47] rfl (by kernel_rfl)
noncomputable def thread_Do_2.F : FI Try.prog 14 := fi Try.f14 91 Try.call14 Try.func14
noncomputable def thread_Do_2.G : FI Try.prog 30 := ⟨Try.f30, 14, (Try.f30.body.getD .skip), Try.f30.results.toList, Try.call30, Try.func30, by kernel_rfl, by kernel_rfl, by kernel_rfl⟩
def thread_Do_2.l2 (a_1 : List api_Inst) (a_2 : Int) (v_27 : Int) (s_34 : (List Int) × (Arr thread_cell 32) × (Arr thread_cell 400) × Bool × Bool × Int × Int × Int × Int × Int × (List api_Event) × Int × Int) : Option (((List Int) × (Arr thread_cell 32) × (Arr thread_cell 400) × Bool × Bool × Int × Int × Int × Int × Int × (List api_Event) × Int × Int) ⊕ ((Int × (List Int) × (Arr thread_cell 32) × (Arr thread_cell 400) × Bool × Bool × Int × Int × Int × Int × Int × (List api_Event)) ⊕ ((List Int) × (Arr thread_cell 32) × (Arr thread_cell 400) × Bool × Bool × Int × Int × Int × Int × Int × (List api_Event) × Int))) :=
 (if s_34.2.2.2.2.2.2.2.2.2.2.2.1 < 0 then (some (true : Bool)) else (some ((decide (s_34.2.2.2.2.2.2.2.2.2.2.2.1 ≥ (a_1.length : Int))) : Bool)) : Option Bool).bind fun o_40 => if o_40 = true then (some (Sum.inr (Sum.inl (6, s_34.1, s_34.2.1, s_34.2.2.1, s_34.2.2.2.1, s_34.2.2.2.2.1, s_34.2.2.2.2.2.1, s_34.2.2.2.2.2.2.1, s_34.2.2.2.2.2.2.2.1, s_34.2.2.2.2.2.2.2.2.1, s_34.2.2.2.2.2.2.2.2.2.1, s_34.2.2.2.2.2.2.2.2.2.2.1)))) else (if s_34.2.2.2.2.2.2.2.2.2.2.2.2 = 8000 then (some (Sum.inr (Sum.inl (5, s_34.1, s_34.2.1, s_34.2.2.1, s_34.2.2.2.1, s_34.2.2.2.2.1, s_34.2.2.2.2.2.1, s_34.2.2.2.2.2.2.1, s_34.2.2.2.2.2.2.2.1, s_34.2.2.2.2.2.2.2.2.1, s_34.2.2.2.2.2.2.2.2.2.1, s_34.2.2.2.2.2.2.2.2.2.2.1)))) else (if 0 ≤ s_34.2.2.2.2.2.2.2.2.2.2.2.1 ∧ s_34.2.2.2.2.2.2.2.2.2.2.2.1 < (a_1.length : Int) then (letC (gi a_1 s_34.2.2.2.2.2.2.2.2.2.2.2.1) fun v_47 => (thread_thread_step_2.m v_47 a_1 a_2 v_27 s_34.1 s_34.2.1 s_34.2.2.1 s_34.2.2.2.1 s_34.2.2.2.2.1 s_34.2.2.2.2.2.1 s_34.2.2.2.2.2.2.1 s_34.2.2.2.2.2.2.2.1 s_34.2.2.2.2.2.2.2.2.1 s_34.2.2.2.2.2.2.2.2.2.1 s_34.2.2.2.2.2.2.2.2.2.2.1).bind fun r_48 => match r_48 with | Sum.inl r_50 => (letC (wr .i64 (s_34.2.2.2.2.2.2.2.2.2.2.2.1 + r_50.2.2.2.2.2.2.2.2.2.2.2)) fun v_52 => letC (wr .i64 (s_34.2.2.2.2.2.2.2.2.2.2.2.2 + 1)) fun v_53 => some (Sum.inl (r_50.1, r_50.2.1, r_50.2.2.1, r_50.2.2.2.1, r_50.2.2.2.2.1, r_50.2.2.2.2.2.1, r_50.2.2.2.2.2.2.1, r_50.2.2.2.2.2.2.2.1, r_50.2.2.2.2.2.2.2.2.1, r_50.2.2.2.2.2.2.2.2.2.1, r_50.2.2.2.2.2.2.2.2.2.2.1, v_52, v_53))) | Sum.inr (r_51) => (some (Sum.inr (Sum.inr ((s_34.1, s_34.2.1, s_34.2.2.1, s_34.2.2.2.1, s_34.2.2.2.2.1, s_34.2.2.2.2.2.1, s_34.2.2.2.2.2.2.1, s_34.2.2.2.2.2.2.2.1, s_34.2.2.2.2.2.2.2.2.1, s_34.2.2.2.2.2.2.2.2.2.1, s_34.2.2.2.2.2.2.2.2.2.2.1, r_51)))))) else none))
def thread_Do_2.l1 (a_1 : List api_Inst) (s_14 : Int) : Option (Int ⊕ (Unit ⊕ Unit)) :=
 if s_14 < (a_1.length : Int) then (if 0 ≤ s_14 ∧ s_14 < (a_1.length : Int) then (letC (gi a_1 s_14) fun v_22 => (isa_Encode.m v_22).bind fun r_23 => if r_23.2 = 0 then (some (Sum.inl (wr .i64 (s_14 + 1)))) else (some (Sum.inr (Sum.inl ())))) else none) else (some (Sum.inr (Sum.inr (()))))
def thread_Do_2.m (a_1 : List api_Inst) (a_2 : Int) (a_3 : Int) (a_4 : List Int) : Option (Unit ⊕ ((List api_Event) × Int)) :=
 (if a_2 < 0 then (some (true : Bool)) else (if a_2 > 16 then (some (true : Bool)) else (if a_3 < 0 then (some (true : Bool)) else (some ((decide (a_3 ≥ 3)) : Bool)))) : Option Bool).bind fun o_5 => if o_5 = true then (some (Sum.inl ())) else ((B.loop (thread_Do_2.l1 a_1) (0 : Int)).bind fun o_15 => match o_15 with | Sum.inl s_18 => (some (Sum.inl ())) | Sum.inr (s_19) => (letC (wr .i64 (a_3 * 2 ^ (min (16 : Int).toNat 64))) fun v_26 => letC (wr .i64 ((1048576 : Int) + v_26)) fun v_27 => letC ((Arr.r 32 ((thread_cell.mk 0 0) : thread_cell) : Arr thread_cell 32).g 1) fun v_28 => letC ((Arr.r 32 ((thread_cell.mk 0 0) : thread_cell) : Arr thread_cell 32).s 1 (thread_cell.mk v_27 v_28.hang)) fun v_29 => letC (v_29.g 2) fun v_30 => letC (v_29.s 2 (thread_cell.mk 65536 v_30.hang)) fun v_31 => (B.loop (thread_Do_2.l2 a_1 a_2 v_27) ((a_4, v_31, (Arr.r 400 ((thread_cell.mk 0 0) : thread_cell) : Arr thread_cell 400), false, false, 0, 0, 0, (-1), 0, ([] : List api_Event), 0, 0) : (List Int) × (Arr thread_cell 32) × (Arr thread_cell 400) × Bool × Bool × Int × Int × Int × Int × Int × (List api_Event) × Int × Int)).bind fun o_35 => match o_35 with | Sum.inl s_38 => (some (Sum.inr ((s_38.2.2.2.2.2.2.2.2.2.2.2, s_38.1)))) | Sum.inr (s_39) => (some (Sum.inr ((s_39.2.2.2.2.2.2.2.2.2.2.1, s_39.2.2.2.2.2.2.2.2.2.2.2))))))
noncomputable def thread_Do_2.o (a_1 : List api_Inst) (a_2 : Int) (a_3 : Int) (a_4 : List Int) (r : Unit ⊕ ((List api_Event) × Int)) : Out := match r with | Sum.inl r => .ret (.agg [.v (.slice none 0 0), vi 0]) [] [] | Sum.inr (r) => .ret (.agg [sL 3 r.1, vi r.2]) [.dead, .dead, .dead, .arr true 48 8 r.1.length (r.1.map api_Event.c)] []
theorem thread_Do_2.ev {a_1 : List api_Inst} {a_2 : Int} {a_3 : Int} {a_4 : List Int} {r : Unit ⊕ ((List api_Event) × Int)} (H : thread_Do_2.m a_1 a_2 a_3 a_4 = some r) : Ev Try.prog 14 [.ro false 5 a_1.length (a_1.map api_Inst.c), vi a_2, vi a_3, .ro false 1 a_4.length (a_4.map (cI .i64))] [] [] (thread_Do_2.o a_1 a_2 a_3 a_4 r) := by
 unfold thread_Do_2.m at H
 obtain ⟨o_5, e_6, H⟩ := bdE H
 have j_7 : Rq thread_Do_2.F 0 [1, 0, 0] ⟨[(0, .ro false 5 a_1.length (a_1.map api_Inst.c)), (1, vi a_2), (2, vi a_3), (3, .ro false 1 a_4.length (a_4.map (cI .i64))), (8, .ref 0 0)], [.box [.v (.slice none 0 0), vi 0]], []⟩ ((fun _ => .normal : Bool → Ex) o_5) ((fun o_5 => ⟨[(0, .ro false 5 a_1.length (a_1.map api_Inst.c)), (1, vi a_2), (2, vi a_3), (3, .ro false 1 a_4.length (a_4.map (cI .i64))), (8, .ref 0 0), (29, .v (.bool o_5))], [.box [.v (.slice none 0 0), vi 0]], []⟩ : Bool → ASt) o_5) := by
  clear H
  have H := e_6
  clear e_6
  rcases ic H with ⟨h_8, H⟩ | ⟨h_8, H⟩
  ·obtain rfl := sj H
   exact fn [br h_8, pT, au, pT, au, pT]
  ·rcases ic H with ⟨h_9, H⟩ | ⟨h_9, H⟩
   ·obtain rfl := sj H
    exact fn [br h_8, pF, br h_9, pT, au, pT]
   ·rcases ic H with ⟨h_10, H⟩ | ⟨h_10, H⟩
    ·obtain rfl := sj H
     exact fn [br h_8, pF, br h_9, pF, br h_10, pT]
    ·obtain rfl := sj H
     exact fn [br h_8, pF, br h_9, pF, br h_10, pF]
 rcases ie H with ⟨h_11, H⟩ | ⟨h_11, H⟩
 ·obtain rfl := sj H
  exact thread_Do_2.F.runD thread_Do_2.G tb mixed [sg_ 1 j_7, br h_11] rfl (by kernel_rfl) (by kernel_rfl)
 ·obtain ⟨o_15, e_16, H⟩ := bdE H
  have j_17 := Runs.loop (P := Try.prog) (N := thread_Do_2.F.N) (m0 := 0) (c := sub_ thread_Do_2.F.c [1, 1, 0, 1, 0, 0]) (f := (thread_Do_2.l1 a_1)) (St := fun s_14 => ⟨[(0, .ro false 5 a_1.length (a_1.map api_Inst.c)), (1, vi a_2), (2, vi a_3), (3, .ro false 1 a_4.length (a_4.map (cI .i64))), (8, .ref 0 0), (31, .ro false 5 a_1.length (a_1.map api_Inst.c)), (32, vi (a_1.length : Int)), (33, vi s_14)], [.box [.v (.slice none 0 0), vi 0]], []⟩) (xo := (fun o => match o with | Sum.inl _ => .ret | Sum.inr (_) => (.exit 0) : (Unit ⊕ Unit) → Ex)) (So := (fun o => match o with | Sum.inl s_18 => ⟨[(8, .ref 0 0)], [.box [.v (.slice none 0 0), vi 0]], []⟩ | Sum.inr (s_19) => ⟨[(0, .ro false 5 a_1.length (a_1.map api_Inst.c)), (1, vi a_2), (2, vi a_3), (3, .ro false 1 a_4.length (a_4.map (cI .i64))), (8, .ref 0 0)], [.box [.v (.slice none 0 0), vi 0]], []⟩ : (Unit ⊕ Unit) → ASt)) (by intro o; rcases o with _ | _ <;> simp) (fun s_14 z H => by
   unfold thread_Do_2.l1 at H
   rcases ic H with ⟨h_20, H⟩ | ⟨h_20, H⟩
   ·obtain ⟨g_21, H⟩ := gdE H
    let v_22 : api_Inst := gi a_1 s_14
    replace H := ltD H
    obtain ⟨r_23, e_24, H⟩ := bdE H
    rcases ic H with ⟨h_25, H⟩ | ⟨h_25, H⟩
    ·obtain rfl := sj H
     exact fn [br h_20, ix api_Inst.c g_21, ca [] (isa_Encode.ev e_24), bn h_25]
    ·obtain rfl := sj H
     exact fn [br h_20, ix api_Inst.c g_21, ca [] (isa_Encode.ev e_24), bn h_25]
   ·obtain rfl := sj H
    exact fn [br h_20] (by kernel_rfl)) e_16
  rcases o_15 with s_18 | s_19
  ·obtain rfl := sj H
   exact thread_Do_2.F.runD thread_Do_2.G tb mixed [sg_ 1 j_7, br h_11, su j_17] rfl (by kernel_rfl) (by kernel_rfl)
  ·let v_26 : Int := wr .i64 (a_3 * 2 ^ (min (16 : Int).toNat 64))
   replace H := ltD H
   let v_27 : Int := wr .i64 ((1048576 : Int) + v_26)
   replace H := ltD H
   let v_28 : thread_cell := (Arr.r 32 ((thread_cell.mk 0 0) : thread_cell) : Arr thread_cell 32).g 1
   replace H := ltD H
   let v_29 : Arr thread_cell 32 := (Arr.r 32 ((thread_cell.mk 0 0) : thread_cell) : Arr thread_cell 32).s 1 (thread_cell.mk v_27 v_28.hang)
   replace H := ltD H
   let v_30 : thread_cell := v_29.g 2
   replace H := ltD H
   let v_31 : Arr thread_cell 32 := v_29.s 2 (thread_cell.mk 65536 v_30.hang)
   replace H := ltD H
   obtain ⟨o_35, e_36, H⟩ := bdE H
   have j_37 := Runs.loop (P := Try.prog) (N := thread_Do_2.F.N) (m0 := 3) (c := sub_ thread_Do_2.F.c [1, 1, 1, 1, 1, 1, 1, 0, 0]) (f := (thread_Do_2.l2 a_1 a_2 v_27)) (St := fun s_34 => ⟨[(0, .ro false 5 a_1.length (a_1.map api_Inst.c)), (8, .ref 0 0), (13, .ref 2 0), (14, vi s_34.2.2.2.2.2.2.2.2.2.2.2.1), (15, vi s_34.2.2.2.2.2.2.2.2.2.2.2.2)], [.box [.v (.slice none 0 0), vi 0], .seg [.c (.ro false 5 a_1.length (a_1.map api_Inst.c)), .c (vi a_2), .c (vi v_27), .c (.ro false 1 s_34.1.length (s_34.1.map (cI .i64))), .a 2 32 (s_34.2.1.l.map thread_cell.c), .a 2 400 (s_34.2.2.1.l.map thread_cell.c), .c (.v (.bool s_34.2.2.2.1)), .c (.v (.bool s_34.2.2.2.2.1)), .c (.v (.int .u64 s_34.2.2.2.2.2.1)), .c (.v (.int .u64 s_34.2.2.2.2.2.2.1)), .c (.v (.int .u64 s_34.2.2.2.2.2.2.2.1)), .c (vi s_34.2.2.2.2.2.2.2.2.1), .c (vi s_34.2.2.2.2.2.2.2.2.2.1), .c (sL 3 s_34.2.2.2.2.2.2.2.2.2.2.1)], .box [.ref 1 0], .arr true 48 8 s_34.2.2.2.2.2.2.2.2.2.2.1.length (s_34.2.2.2.2.2.2.2.2.2.2.1.map api_Event.c)], []⟩) (xo := (fun o => match o with | Sum.inl _ => .ret | Sum.inr (s_39) => (.pan (.ifc 97 (vi s_39.2.2.2.2.2.2.2.2.2.2.2))) : ((Int × (List Int) × (Arr thread_cell 32) × (Arr thread_cell 400) × Bool × Bool × Int × Int × Int × Int × Int × (List api_Event)) ⊕ ((List Int) × (Arr thread_cell 32) × (Arr thread_cell 400) × Bool × Bool × Int × Int × Int × Int × Int × (List api_Event) × Int)) → Ex)) (So := (fun o => match o with | Sum.inl s_38 => ⟨[(8, .ref 0 0)], [.box [.v (.slice none 0 0), vi s_38.1], .seg [.c (.ro false 5 a_1.length (a_1.map api_Inst.c)), .c (vi a_2), .c (vi v_27), .c (.ro false 1 s_38.2.1.length (s_38.2.1.map (cI .i64))), .a 2 32 (s_38.2.2.1.l.map thread_cell.c), .a 2 400 (s_38.2.2.2.1.l.map thread_cell.c), .c (.v (.bool s_38.2.2.2.2.1)), .c (.v (.bool s_38.2.2.2.2.2.1)), .c (.v (.int .u64 s_38.2.2.2.2.2.2.1)), .c (.v (.int .u64 s_38.2.2.2.2.2.2.2.1)), .c (.v (.int .u64 s_38.2.2.2.2.2.2.2.2.1)), .c (vi s_38.2.2.2.2.2.2.2.2.2.1), .c (vi s_38.2.2.2.2.2.2.2.2.2.2.1), .c (sL 3 s_38.2.2.2.2.2.2.2.2.2.2.2)], .box [.ref 1 0], .arr true 48 8 s_38.2.2.2.2.2.2.2.2.2.2.2.length (s_38.2.2.2.2.2.2.2.2.2.2.2.map api_Event.c)], []⟩ | Sum.inr (s_39) => ⟨[(8, .ref 0 0)], [.box [.v (.slice none 0 0), vi 0], .seg [.c (.ro false 5 a_1.length (a_1.map api_Inst.c)), .c (vi a_2), .c (vi v_27), .c (.ro false 1 s_39.1.length (s_39.1.map (cI .i64))), .a 2 32 (s_39.2.1.l.map thread_cell.c), .a 2 400 (s_39.2.2.1.l.map thread_cell.c), .c (.v (.bool s_39.2.2.2.1)), .c (.v (.bool s_39.2.2.2.2.1)), .c (.v (.int .u64 s_39.2.2.2.2.2.1)), .c (.v (.int .u64 s_39.2.2.2.2.2.2.1)), .c (.v (.int .u64 s_39.2.2.2.2.2.2.2.1)), .c (vi s_39.2.2.2.2.2.2.2.2.1), .c (vi s_39.2.2.2.2.2.2.2.2.2.1), .c (sL 3 s_39.2.2.2.2.2.2.2.2.2.2.1)], .box [.ref 1 0], .arr true 48 8 s_39.2.2.2.2.2.2.2.2.2.2.1.length (s_39.2.2.2.2.2.2.2.2.2.2.1.map api_Event.c)], []⟩ : ((Int × (List Int) × (Arr thread_cell 32) × (Arr thread_cell 400) × Bool × Bool × Int × Int × Int × Int × Int × (List api_Event)) ⊕ ((List Int) × (Arr thread_cell 32) × (Arr thread_cell 400) × Bool × Bool × Int × Int × Int × Int × Int × (List api_Event) × Int)) → ASt)) (by intro o; rcases o with _ | _ <;> simp) (fun s_34 z H => by
    unfold thread_Do_2.l2 at H
    obtain ⟨o_40, e_41, H⟩ := bdE H
    have j_42 : Rq thread_Do_2.F 3 [1, 1, 1, 1, 1, 1, 1, 0, 0, 0, 0, 0, 0] ⟨[(0, .ro false 5 a_1.length (a_1.map api_Inst.c)), (8, .ref 0 0), (13, .ref 2 0), (14, vi s_34.2.2.2.2.2.2.2.2.2.2.2.1), (15, vi s_34.2.2.2.2.2.2.2.2.2.2.2.2)], [.box [.v (.slice none 0 0), vi 0], .seg [.c (.ro false 5 a_1.length (a_1.map api_Inst.c)), .c (vi a_2), .c (vi v_27), .c (.ro false 1 s_34.1.length (s_34.1.map (cI .i64))), .a 2 32 (s_34.2.1.l.map thread_cell.c), .a 2 400 (s_34.2.2.1.l.map thread_cell.c), .c (.v (.bool s_34.2.2.2.1)), .c (.v (.bool s_34.2.2.2.2.1)), .c (.v (.int .u64 s_34.2.2.2.2.2.1)), .c (.v (.int .u64 s_34.2.2.2.2.2.2.1)), .c (.v (.int .u64 s_34.2.2.2.2.2.2.2.1)), .c (vi s_34.2.2.2.2.2.2.2.2.1), .c (vi s_34.2.2.2.2.2.2.2.2.2.1), .c (sL 3 s_34.2.2.2.2.2.2.2.2.2.2.1)], .box [.ref 1 0], .arr true 48 8 s_34.2.2.2.2.2.2.2.2.2.2.1.length (s_34.2.2.2.2.2.2.2.2.2.2.1.map api_Event.c)], []⟩ ((fun _ => .normal : Bool → Ex) o_40) ((fun o_40 => ⟨[(0, .ro false 5 a_1.length (a_1.map api_Inst.c)), (8, .ref 0 0), (13, .ref 2 0), (14, vi s_34.2.2.2.2.2.2.2.2.2.2.2.1), (15, vi s_34.2.2.2.2.2.2.2.2.2.2.2.2), (78, .v (.bool o_40))], [.box [.v (.slice none 0 0), vi 0], .seg [.c (.ro false 5 a_1.length (a_1.map api_Inst.c)), .c (vi a_2), .c (vi v_27), .c (.ro false 1 s_34.1.length (s_34.1.map (cI .i64))), .a 2 32 (s_34.2.1.l.map thread_cell.c), .a 2 400 (s_34.2.2.1.l.map thread_cell.c), .c (.v (.bool s_34.2.2.2.1)), .c (.v (.bool s_34.2.2.2.2.1)), .c (.v (.int .u64 s_34.2.2.2.2.2.1)), .c (.v (.int .u64 s_34.2.2.2.2.2.2.1)), .c (.v (.int .u64 s_34.2.2.2.2.2.2.2.1)), .c (vi s_34.2.2.2.2.2.2.2.2.1), .c (vi s_34.2.2.2.2.2.2.2.2.2.1), .c (sL 3 s_34.2.2.2.2.2.2.2.2.2.2.1)], .box [.ref 1 0], .arr true 48 8 s_34.2.2.2.2.2.2.2.2.2.2.1.length (s_34.2.2.2.2.2.2.2.2.2.2.1.map api_Event.c)], []⟩ : Bool → ASt) o_40) := by
     clear H
     have H := e_41
     clear e_41
     rcases ic H with ⟨h_43, H⟩ | ⟨h_43, H⟩
     ·obtain rfl := sj H
      exact fn [br h_43, pT]
     ·obtain rfl := sj H
      exact fn [br h_43, pF]
    rcases ie H with ⟨h_44, H⟩ | ⟨h_44, H⟩
    ·obtain rfl := sj H
     exact fn [sg_ 15 j_42, br h_44]
    ·rcases ic H with ⟨h_45, H⟩ | ⟨h_45, H⟩
     ·obtain rfl := sj H
      exact fn [sg_ 15 j_42, br h_44, br h_45]
     ·obtain ⟨g_46, H⟩ := gdE H
      let v_47 : api_Inst := gi a_1 s_34.2.2.2.2.2.2.2.2.2.2.2.1
      replace H := ltD H
      obtain ⟨r_48, e_49, H⟩ := bdE H
      rcases r_48 with r_50 | r_51
      ·let v_52 : Int := wr .i64 (s_34.2.2.2.2.2.2.2.2.2.2.2.1 + r_50.2.2.2.2.2.2.2.2.2.2.2)
       replace H := ltD H
       let v_53 : Int := wr .i64 (s_34.2.2.2.2.2.2.2.2.2.2.2.2 + 1)
       replace H := ltD H
       obtain rfl := sj H
       exact fn [sg_ 15 j_42, br h_44, br h_45, ix api_Inst.c g_46, ca [1, 3] (thread_thread_step_2.ev e_49)]
      ·obtain rfl := sj H
       exact fn [sg_ 15 j_42, br h_44, br h_45, ix api_Inst.c g_46, ca [1, 3] (thread_thread_step_2.ev e_49)] (by kernel_rfl)) e_36
   rcases o_35 with s_38 | s_39
   ·obtain rfl := sj H
    exact thread_Do_2.F.runD thread_Do_2.G tb mixed [sg_ 1 j_7, br h_11, su j_17, pf (by decide : 0 ≤ (16 : Int)), on_ 53 (sgn [.c (.ro false 5 a_1.length (a_1.map api_Inst.c)), .c (vi a_2), .c (vi v_27), .c (.ro false 1 a_4.length (a_4.map (cI .i64))), .a 2 32 ((Arr.r 32 ((thread_cell.mk 0 0) : thread_cell) : Arr thread_cell 32).l.map thread_cell.c), .a 2 400 ((Arr.r 400 ((thread_cell.mk 0 0) : thread_cell) : Arr thread_cell 400).l.map thread_cell.c), .c (.v (.bool false)), .c (.v (.bool false)), .c (.v (.int .u64 0)), .c (.v (.int .u64 0)), .c (.v (.int .u64 0)), .c (vi (-1)), .c (vi 0), .c (.v (.slice none 0 0))]), pf (by decide : 0 ≤ (1 : Int) ∧ (1 : Int) < ((32 : Nat) : Int)), sgs thread_cell.c (Arr.r 32 ((thread_cell.mk 0 0) : thread_cell) : Arr thread_cell 32) 4 0 [vi v_27] (thread_cell.mk v_27 v_28.hang) (by decide : 0 ≤ (1 : Int) ∧ (1 : Int) < ((32 : Nat) : Int)) (by kernel_rfl), pf (by decide : 0 ≤ (2 : Int) ∧ (2 : Int) < ((32 : Nat) : Int)), sgs thread_cell.c v_29 4 0 [vi 65536] (thread_cell.mk 65536 v_30.hang) (by decide : 0 ≤ (2 : Int) ∧ (2 : Int) < ((32 : Nat) : Int)) (by kernel_rfl), su j_37, adB 1 13 (some 48) 8, au] rfl (by kernel_rfl) (by kernel_rfl)
   ·obtain rfl := sj H
    exact thread_Do_2.F.runD thread_Do_2.G tb mixed [sg_ 1 j_7, br h_11, su j_17, pf (by decide : 0 ≤ (16 : Int)), on_ 53 (sgn [.c (.ro false 5 a_1.length (a_1.map api_Inst.c)), .c (vi a_2), .c (vi v_27), .c (.ro false 1 a_4.length (a_4.map (cI .i64))), .a 2 32 ((Arr.r 32 ((thread_cell.mk 0 0) : thread_cell) : Arr thread_cell 32).l.map thread_cell.c), .a 2 400 ((Arr.r 400 ((thread_cell.mk 0 0) : thread_cell) : Arr thread_cell 400).l.map thread_cell.c), .c (.v (.bool false)), .c (.v (.bool false)), .c (.v (.int .u64 0)), .c (.v (.int .u64 0)), .c (.v (.int .u64 0)), .c (vi (-1)), .c (vi 0), .c (.v (.slice none 0 0))]), pf (by decide : 0 ≤ (1 : Int) ∧ (1 : Int) < ((32 : Nat) : Int)), sgs thread_cell.c (Arr.r 32 ((thread_cell.mk 0 0) : thread_cell) : Arr thread_cell 32) 4 0 [vi v_27] (thread_cell.mk v_27 v_28.hang) (by decide : 0 ≤ (1 : Int) ∧ (1 : Int) < ((32 : Nat) : Int)) (by kernel_rfl), pf (by decide : 0 ≤ (2 : Int) ∧ (2 : Int) < ((32 : Nat) : Int)), sgs thread_cell.c v_29 4 0 [vi 65536] (thread_cell.mk 65536 v_30.hang) (by decide : 0 ≤ (2 : Int) ∧ (2 : Int) < ((32 : Nat) : Int)) (by kernel_rfl), su j_37, adB 1 13 (some 48) 8, au] rfl (by kernel_rfl) (by kernel_rfl)
noncomputable def tree_runner_do_1_2.F : FI Try.prog 75 := fi Try.f75 20 Try.call75 Try.func75
def tree_runner_do_1_2.m (a_1 : Int) (a_2 : Int) (a_3 : Int) (a_4 : Arr Int 400) (a_5 : List Int) (a_6 : List api_Act) : Option (List api_Act) :=
 if (a_6.length + ([(api_Act.mk a_1 a_2 0 a_3)] : List api_Act).length) * 32 ≤ 140737488355328 then (letC (a_6 ++ ([(api_Act.mk a_1 a_2 0 a_3)] : List api_Act)) fun v_8 => some v_8) else none
noncomputable def tree_runner_do_1_2.o (a_1 : Int) (a_2 : Int) (a_3 : Int) (a_4 : Arr Int 400) (a_5 : List Int) (a_6 : List api_Act) (r : List api_Act) : Out := .ret (.tup []) [.box [.ref 1 0], .seg [.a 1 400 (a_4.l.map (cI .i64)), .c (.ro false 1 a_5.length (a_5.map (cI .i64))), .c (sL 2 r)], .arr true 64 4 r.length (r.map api_Act.c)] []
theorem tree_runner_do_1_2.ev {a_1 : Int} {a_2 : Int} {a_3 : Int} {a_4 : Arr Int 400} {a_5 : List Int} {a_6 : List api_Act} {r : List api_Act} (H : tree_runner_do_1_2.m a_1 a_2 a_3 a_4 a_5 a_6 = some r) : Ev Try.prog 75 [vi a_1, vi a_2, vi a_3, .ref 0 0] [.box [.ref 1 0], .seg [.a 1 400 (a_4.l.map (cI .i64)), .c (.ro false 1 a_5.length (a_5.map (cI .i64))), .c (sL 2 a_6)], .arr true 64 4 a_6.length (a_6.map api_Act.c)] [] (tree_runner_do_1_2.o a_1 a_2 a_3 a_4 a_5 a_6 r) := by
 unfold tree_runner_do_1_2.m at H
 obtain ⟨g_7, H⟩ := gdE H
 let v_8 : List api_Act := a_6 ++ ([(api_Act.mk a_1 a_2 0 a_3)] : List api_Act)
 replace H := ltD H
 obtain rfl := sj H
 exact tree_runner_do_1_2.F.run tb mixed [ap api_Act.c 32 false a_6 ([(api_Act.mk a_1 a_2 0 a_3)] : List api_Act) g_7 (fun h => by cases h)] rfl (by kernel_rfl)
noncomputable def tree_runner_answer_2.F : FI Try.prog 90 := fi Try.f90 26 Try.call90 Try.func90
def tree_runner_answer_2.m (a_1 : Arr Int 400) (a_2 : List Int) (a_3 : List api_Act) : Option ((List Int) × Int × Bool) :=
 if (a_2.length : Int) = 0 then (some (a_2, 0, false)) else (if 0 ≤ (0 : Int) ∧ (0 : Int) < (a_2.length : Int) then (letC (gi a_2 0) fun v_6 => if 0 ≤ (1 : Int) ∧ (1 : Int) ≤ (a_2.length : Int) ∧ (a_2.length : Int) ≤ (a_2.length : Int) then (letC ((a_2.drop (1 : Int).toNat).take ((a_2.length : Int).toNat - (1 : Int).toNat)) fun v_8 => some (v_8, v_6, true)) else none) else none)
noncomputable def tree_runner_answer_2.o (a_1 : Arr Int 400) (a_2 : List Int) (a_3 : List api_Act) (r : (List Int) × Int × Bool) : Out := .ret (.tup [vi r.2.1, .v (.bool r.2.2)]) [.seg [.a 1 400 (a_1.l.map (cI .i64)), .c (.ro false 1 r.1.length (r.1.map (cI .i64))), .c (sL 1 a_3)], .arr true 64 4 a_3.length (a_3.map api_Act.c)] []
theorem tree_runner_answer_2.ev {a_1 : Arr Int 400} {a_2 : List Int} {a_3 : List api_Act} {r : (List Int) × Int × Bool} (H : tree_runner_answer_2.m a_1 a_2 a_3 = some r) : Ev Try.prog 90 [.ref 0 0] [.seg [.a 1 400 (a_1.l.map (cI .i64)), .c (.ro false 1 a_2.length (a_2.map (cI .i64))), .c (sL 1 a_3)], .arr true 64 4 a_3.length (a_3.map api_Act.c)] [] (tree_runner_answer_2.o a_1 a_2 a_3 r) := by
 unfold tree_runner_answer_2.m at H
 rcases ic H with ⟨h_4, H⟩ | ⟨h_4, H⟩
 ·obtain rfl := sj H
  exact tree_runner_answer_2.F.run tb mixed [br h_4] rfl (by kernel_rfl)
 ·obtain ⟨g_5, H⟩ := gdE H
  let v_6 : Int := gi a_2 0
  replace H := ltD H
  obtain ⟨g_7, H⟩ := gdE H
  let v_8 : List Int := (a_2.drop (1 : Int).toNat).take ((a_2.length : Int).toNat - (1 : Int).toNat)
  replace H := ltD H
  obtain rfl := sj H
  exact tree_runner_answer_2.F.run tb mixed [br h_4, ix (cI .i64) g_5, ct (cI .i64) a_2 (1 : Int) (a_2.length : Int) g_7] rfl (by kernel_rfl)
noncomputable def tree_runner_cases_2.F : FI Try.prog 76 := fi Try.f76 55 Try.call76 Try.func76
def tree_runner_cases_2.m (a_1 : Int) (a_2 : api_Ins) (a_3 : Int) (a_4 : Int) (a_5 : Arr Int 400) (a_6 : List Int) (a_7 : List api_Act) : Option ((List Int) × (List api_Act) × Int × Int) :=
 (tree_runner_answer_2.m a_5 a_6 a_7).bind fun r_8 => if r_8.2.2 = true then (if r_8.2.1 = a_3 then (if (a_7.length + ([(api_Act.mk 5 a_2.Loc r_8.2.1 a_4)] : List api_Act).length) * 32 ≤ 140737488355328 then (letC (a_7 ++ ([(api_Act.mk 5 a_2.Loc r_8.2.1 a_4)] : List api_Act)) fun v_13 => some (r_8.1, v_13, (wr .i64 (a_1 + 1)), 0)) else none) else (if (a_7.length + ([(api_Act.mk 3 a_2.Loc r_8.2.1 0)] : List api_Act).length) * 32 ≤ 140737488355328 then (letC (a_7 ++ ([(api_Act.mk 3 a_2.Loc r_8.2.1 0)] : List api_Act)) fun v_15 => some (r_8.1, v_15, a_2.To, 0)) else none)) else (some (r_8.1, a_7, 0, 4))
noncomputable def tree_runner_cases_2.o (a_1 : Int) (a_2 : api_Ins) (a_3 : Int) (a_4 : Int) (a_5 : Arr Int 400) (a_6 : List Int) (a_7 : List api_Act) (r : (List Int) × (List api_Act) × Int × Int) : Out := .ret (.tup [vi r.2.2.1, vi r.2.2.2]) [.seg [.a 1 400 (a_5.l.map (cI .i64)), .c (.ro false 1 r.1.length (r.1.map (cI .i64))), .c (sL 1 r.2.1)], .arr true 64 4 r.2.1.length (r.2.1.map api_Act.c)] []
theorem tree_runner_cases_2.ev {a_1 : Int} {a_2 : api_Ins} {a_3 : Int} {a_4 : Int} {a_5 : Arr Int 400} {a_6 : List Int} {a_7 : List api_Act} {r : (List Int) × (List api_Act) × Int × Int} (H : tree_runner_cases_2.m a_1 a_2 a_3 a_4 a_5 a_6 a_7 = some r) : Ev Try.prog 76 [.ref 0 0, vi a_1, .agg (api_Ins.c a_2), vi a_3, vi a_4] [.seg [.a 1 400 (a_5.l.map (cI .i64)), .c (.ro false 1 a_6.length (a_6.map (cI .i64))), .c (sL 1 a_7)], .arr true 64 4 a_7.length (a_7.map api_Act.c)] [] (tree_runner_cases_2.o a_1 a_2 a_3 a_4 a_5 a_6 a_7 r) := by
 unfold tree_runner_cases_2.m at H
 obtain ⟨r_8, e_9, H⟩ := bdE H
 rcases ie H with ⟨h_10, H⟩ | ⟨h_10, H⟩
 ·rcases ic H with ⟨h_11, H⟩ | ⟨h_11, H⟩
  ·obtain ⟨g_12, H⟩ := gdE H
   let v_13 : List api_Act := a_7 ++ ([(api_Act.mk 5 a_2.Loc r_8.2.1 a_4)] : List api_Act)
   replace H := ltD H
   obtain rfl := sj H
   exact tree_runner_cases_2.F.run tb mixed [ca [0, 1] (tree_runner_answer_2.ev e_9), bn h_10, bn h_11, ap api_Act.c 32 false a_7 ([(api_Act.mk 5 a_2.Loc r_8.2.1 a_4)] : List api_Act) g_12 (fun h => by cases h)] rfl (by kernel_rfl)
  ·obtain ⟨g_14, H⟩ := gdE H
   let v_15 : List api_Act := a_7 ++ ([(api_Act.mk 3 a_2.Loc r_8.2.1 0)] : List api_Act)
   replace H := ltD H
   obtain rfl := sj H
   exact tree_runner_cases_2.F.run tb mixed [ca [0, 1] (tree_runner_answer_2.ev e_9), bn h_10, bn h_11, ap api_Act.c 32 false a_7 ([(api_Act.mk 3 a_2.Loc r_8.2.1 0)] : List api_Act) g_14 (fun h => by cases h)] rfl (by kernel_rfl)
 ·obtain rfl := sj H
  exact tree_runner_cases_2.F.run tb mixed [ca [0, 1] (tree_runner_answer_2.ev e_9), bn h_10] rfl (by kernel_rfl)
noncomputable def tree_runner_ask.F : FI Try.prog 77 := fi Try.f77 64 Try.call77 Try.func77
def tree_runner_ask.m (a_1 : api_Ins) (a_2 : Int) (a_3 : Int) (a_4 : Arr Int 400) (a_5 : List Int) (a_6 : List api_Act) : Option ((Arr Int 400) × (List Int) × (List api_Act) × Bool) :=
 (tree_runner_answer_2.m a_4 a_5 a_6).bind fun r_7 => if r_7.2.2 = true then ((if a_1.Op = 10 then (if 0 ≤ a_1.A ∧ a_1.A < ((400 : Nat) : Int) then (letC (a_4.g a_1.A) fun v_15 => some ((api_Act.mk ((api_Act.mk a_2 a_3 r_7.2.1 0).Kind) ((api_Act.mk a_2 a_3 r_7.2.1 0).Loc) ((api_Act.mk a_2 a_3 r_7.2.1 0).Old) v_15) : api_Act)) else none) else (some (api_Act.mk a_2 a_3 r_7.2.1 0 : api_Act)) : Option api_Act).bind fun o_10 => (if a_1.Op = 11 then (if 0 ≤ a_1.A ∧ a_1.A < ((400 : Nat) : Int) then (letC (a_4.g a_1.A) fun v_21 => some ((api_Act.mk o_10.Kind o_10.Loc o_10.Old (wr .i64 (r_7.2.1 + v_21))) : api_Act)) else none) else (some (o_10 : api_Act)) : Option api_Act).bind fun o_16 => if 0 ≤ a_1.D ∧ a_1.D < ((400 : Nat) : Int) then (letC (a_4.s a_1.D r_7.2.1) fun v_23 => if (a_6.length + ([o_16] : List api_Act).length) * 32 ≤ 140737488355328 then (letC (a_6 ++ ([o_16] : List api_Act)) fun v_25 => some (v_23, r_7.1, v_25, true)) else none) else none) else (some (a_4, r_7.1, a_6, false))
noncomputable def tree_runner_ask.o (a_1 : api_Ins) (a_2 : Int) (a_3 : Int) (a_4 : Arr Int 400) (a_5 : List Int) (a_6 : List api_Act) (r : (Arr Int 400) × (List Int) × (List api_Act) × Bool) : Out := .ret (.v (.bool r.2.2.2)) [.seg [.a 1 400 (r.1.l.map (cI .i64)), .c (.ro false 1 r.2.1.length (r.2.1.map (cI .i64))), .c (sL 1 r.2.2.1)], .arr true 64 4 r.2.2.1.length (r.2.2.1.map api_Act.c)] []
theorem tree_runner_ask.ev {a_1 : api_Ins} {a_2 : Int} {a_3 : Int} {a_4 : Arr Int 400} {a_5 : List Int} {a_6 : List api_Act} {r : (Arr Int 400) × (List Int) × (List api_Act) × Bool} (H : tree_runner_ask.m a_1 a_2 a_3 a_4 a_5 a_6 = some r) : Ev Try.prog 77 [.ref 0 0, .agg (api_Ins.c a_1), vi a_2, vi a_3] [.seg [.a 1 400 (a_4.l.map (cI .i64)), .c (.ro false 1 a_5.length (a_5.map (cI .i64))), .c (sL 1 a_6)], .arr true 64 4 a_6.length (a_6.map api_Act.c)] [] (tree_runner_ask.o a_1 a_2 a_3 a_4 a_5 a_6 r) := by
 unfold tree_runner_ask.m at H
 obtain ⟨r_7, e_8, H⟩ := bdE H
 rcases ie H with ⟨h_9, H⟩ | ⟨h_9, H⟩
 ·obtain ⟨o_10, e_11, H⟩ := bdE H
  have j_12 : Rq tree_runner_ask.F 2 [1, 1, 1, 1, 0, 1] ⟨[(0, .ref 0 0), (5, .ref 2 0), (9, vi r_7.2.1), (11, .ref 3 0), (25, .v (.bool (decide (a_1.Op = 10))))], [.seg [.a 1 400 (a_4.l.map (cI .i64)), .c (.ro false 1 r_7.1.length (r_7.1.map (cI .i64))), .c (sL 1 a_6)], .arr true 64 4 a_6.length (a_6.map api_Act.c), .box (api_Ins.c a_1), .box (api_Act.c (api_Act.mk a_2 a_3 r_7.2.1 0))], []⟩ ((fun _ => .normal : api_Act → Ex) o_10) ((fun o_10 => ⟨[(0, .ref 0 0), (5, .ref 2 0), (9, vi r_7.2.1), (11, .ref 3 0)], [.seg [.a 1 400 (a_4.l.map (cI .i64)), .c (.ro false 1 r_7.1.length (r_7.1.map (cI .i64))), .c (sL 1 a_6)], .arr true 64 4 a_6.length (a_6.map api_Act.c), .box (api_Ins.c a_1), .box (api_Act.c o_10)], []⟩ : api_Act → ASt) o_10) := by
   clear H
   have H := e_11
   clear e_11
   rcases ic H with ⟨h_13, H⟩ | ⟨h_13, H⟩
   ·obtain ⟨g_14, H⟩ := gdE H
    let v_15 : Int := a_4.g a_1.A
    replace H := ltD H
    obtain rfl := sj H
    exact fn [br h_13, pf g_14, sgl (cI .i64) a_4 0 0 g_14]
   ·obtain rfl := sj H
    exact fn [br h_13]
  obtain ⟨o_16, e_17, H⟩ := bdE H
  have j_18 : Rq tree_runner_ask.F 2 [1, 1, 1, 1, 1, 0, 1] ⟨[(0, .ref 0 0), (5, .ref 2 0), (9, vi r_7.2.1), (11, .ref 3 0), (36, .v (.bool (decide (a_1.Op = 11))))], [.seg [.a 1 400 (a_4.l.map (cI .i64)), .c (.ro false 1 r_7.1.length (r_7.1.map (cI .i64))), .c (sL 1 a_6)], .arr true 64 4 a_6.length (a_6.map api_Act.c), .box (api_Ins.c a_1), .box (api_Act.c o_10)], []⟩ ((fun _ => .normal : api_Act → Ex) o_16) ((fun o_16 => ⟨[(0, .ref 0 0), (5, .ref 2 0), (9, vi r_7.2.1), (11, .ref 3 0)], [.seg [.a 1 400 (a_4.l.map (cI .i64)), .c (.ro false 1 r_7.1.length (r_7.1.map (cI .i64))), .c (sL 1 a_6)], .arr true 64 4 a_6.length (a_6.map api_Act.c), .box (api_Ins.c a_1), .box (api_Act.c o_16)], []⟩ : api_Act → ASt) o_16) := by
   clear H
   have H := e_17
   clear e_17
   rcases ic H with ⟨h_19, H⟩ | ⟨h_19, H⟩
   ·obtain ⟨g_20, H⟩ := gdE H
    let v_21 : Int := a_4.g a_1.A
    replace H := ltD H
    obtain rfl := sj H
    exact fn [br h_19, pf g_20, sgl (cI .i64) a_4 0 0 g_20]
   ·obtain rfl := sj H
    exact fn [br h_19]
  obtain ⟨g_22, H⟩ := gdE H
  let v_23 : Arr Int 400 := a_4.s a_1.D r_7.2.1
  replace H := ltD H
  obtain ⟨g_24, H⟩ := gdE H
  let v_25 : List api_Act := a_6 ++ ([o_16] : List api_Act)
  replace H := ltD H
  obtain rfl := sj H
  exact tree_runner_ask.F.run tb mixed [ca [0, 1] (tree_runner_answer_2.ev e_8), bn h_9, sc_ j_12, sc_ j_18, pf g_22, sgs (cI .i64) a_4 0 0 [vi r_7.2.1] r_7.2.1 g_22 (by kernel_rfl), ap api_Act.c 32 false a_6 ([o_16] : List api_Act) g_24 (fun h => by cases h)] rfl (by kernel_rfl)
 ·obtain rfl := sj H
  exact tree_runner_ask.F.run tb mixed [ca [0, 1] (tree_runner_answer_2.ev e_8), bn h_9] rfl (by kernel_rfl)
noncomputable def tree_runner_do_2.F : FI Try.prog 34 := fi Try.f34 171 Try.call34 Try.func34
def tree_runner_do_2.m (a_1 : Int) (a_2 : api_Ins) (a_3 : Arr Int 400) (a_4 : List Int) (a_5 : List api_Act) : Option ((Arr Int 400) × (List Int) × (List api_Act) × Int × Int) :=
 if 0 ≤ a_2.A ∧ a_2.A < ((400 : Nat) : Int) then (letC (a_3.g a_2.A) fun v_7 => if 0 ≤ a_2.B ∧ a_2.B < ((400 : Nat) : Int) then (letC (a_3.g a_2.B) fun v_9 => (if a_2.Op = 1 then (if 0 ≤ a_2.D ∧ a_2.D < ((400 : Nat) : Int) then (letC (a_3.s a_2.D a_2.K) fun v_15 => some (Sum.inl (v_15, a_5, 0, a_2.Loc) : ((Arr Int 400) × (List api_Act) × Int × Int) ⊕ ((List Int) × (List api_Act) × Int × Int))) else none) else (if a_2.Op = 2 then (if 0 ≤ a_2.D ∧ a_2.D < ((400 : Nat) : Int) then (letC (a_3.s a_2.D (wr .i64 (v_7 + v_9))) fun v_18 => some (Sum.inl (v_18, a_5, 0, a_2.Loc) : ((Arr Int 400) × (List api_Act) × Int × Int) ⊕ ((List Int) × (List api_Act) × Int × Int))) else none) else (if a_2.Op = 3 then (if 0 ≤ a_2.D ∧ a_2.D < ((400 : Nat) : Int) then (letC (a_3.s a_2.D (wr .i64 (v_7 - v_9))) fun v_21 => some (Sum.inl (v_21, a_5, 0, a_2.Loc) : ((Arr Int 400) × (List api_Act) × Int × Int) ⊕ ((List Int) × (List api_Act) × Int × Int))) else none) else (if a_2.Op = 4 then (if 0 ≤ a_2.D ∧ a_2.D < ((400 : Nat) : Int) then (letC (a_3.s a_2.D (wr .i64 (v_7 * v_9))) fun v_24 => some (Sum.inl (v_24, a_5, 0, a_2.Loc) : ((Arr Int 400) × (List api_Act) × Int × Int) ⊕ ((List Int) × (List api_Act) × Int × Int))) else none) else (if a_2.Op = 5 then (if v_9 = 0 then (some (Sum.inr ((a_4, a_5, 0, 2)) : ((Arr Int 400) × (List api_Act) × Int × Int) ⊕ ((List Int) × (List api_Act) × Int × Int))) else (if v_9 ≠ 0 then (if 0 ≤ a_2.D ∧ a_2.D < ((400 : Nat) : Int) then (letC (a_3.s a_2.D (wr .i64 (Int.tdiv v_7 v_9))) fun v_29 => some (Sum.inl (v_29, a_5, 0, a_2.Loc) : ((Arr Int 400) × (List api_Act) × Int × Int) ⊕ ((List Int) × (List api_Act) × Int × Int))) else none) else none)) else (if a_2.Op = 6 then (some (Sum.inl (a_3, a_5, 1, a_2.Loc) : ((Arr Int 400) × (List api_Act) × Int × Int) ⊕ ((List Int) × (List api_Act) × Int × Int))) else (if a_2.Op = 8 then (some (Sum.inl (a_3, a_5, 3, a_2.Loc) : ((Arr Int 400) × (List api_Act) × Int × Int) ⊕ ((List Int) × (List api_Act) × Int × Int))) else ((if a_2.Op = 10 then (some (true : Bool)) else (some ((decide (a_2.Op = 11)) : Bool)) : Option Bool).bind fun o_32 => if o_32 = true then (some (Sum.inl (a_3, a_5, 5, a_2.Loc) : ((Arr Int 400) × (List api_Act) × Int × Int) ⊕ ((List Int) × (List api_Act) × Int × Int))) else (if a_2.Op = 7 then ((tree_runner_do_1_2.m 2 a_2.Loc v_7 a_3 a_4 a_5).bind fun r_38 => some (Sum.inl (a_3, r_38, 0, a_2.Loc) : ((Arr Int 400) × (List api_Act) × Int × Int) ⊕ ((List Int) × (List api_Act) × Int × Int))) else (if a_2.Op = 9 then ((tree_runner_do_1_2.m 4 a_2.Loc v_7 a_3 a_4 a_5).bind fun r_41 => some (Sum.inl (a_3, r_41, 0, a_2.Loc) : ((Arr Int 400) × (List api_Act) × Int × Int) ⊕ ((List Int) × (List api_Act) × Int × Int))) else ((if a_2.Op = 13 then (some (true : Bool)) else (some ((decide (a_2.Op = 14)) : Bool)) : Option Bool).bind fun o_43 => if o_43 = true then ((if v_7 < 0 then (some (true : Bool)) else (some ((decide (v_7 ≥ a_2.Len)) : Bool)) : Option Bool).bind fun o_48 => if o_48 = true then (some (Sum.inr ((a_4, a_5, 0, 3)) : ((Arr Int 400) × (List api_Act) × Int × Int) ⊕ ((List Int) × (List api_Act) × Int × Int))) else (if a_2.Op = 14 then ((tree_runner_do_1_2.m 2 (wr .i64 (a_2.Loc + v_7)) v_9 a_3 a_4 a_5).bind fun r_54 => some (Sum.inl (a_3, r_54, 0, (wr .i64 (a_2.Loc + v_7))) : ((Arr Int 400) × (List api_Act) × Int × Int) ⊕ ((List Int) × (List api_Act) × Int × Int))) else (some (Sum.inl (a_3, a_5, 1, (wr .i64 (a_2.Loc + v_7))) : ((Arr Int 400) × (List api_Act) × Int × Int) ⊕ ((List Int) × (List api_Act) × Int × Int))))) else (if a_2.Op = 15 then ((tree_runner_do_1_2.m 6 0 v_7 a_3 a_4 a_5).bind fun r_57 => some (Sum.inl (a_3, r_57, 0, a_2.Loc) : ((Arr Int 400) × (List api_Act) × Int × Int) ⊕ ((List Int) × (List api_Act) × Int × Int))) else (if a_2.Op = 16 then (if v_7 ≥ v_9 then (some (Sum.inr ((a_4, a_5, a_2.To, 0)) : ((Arr Int 400) × (List api_Act) × Int × Int) ⊕ ((List Int) × (List api_Act) × Int × Int))) else (some (Sum.inl (a_3, a_5, 0, a_2.Loc) : ((Arr Int 400) × (List api_Act) × Int × Int) ⊕ ((List Int) × (List api_Act) × Int × Int)))) else (if a_2.Op = 17 then (if v_7 = v_9 then (some (Sum.inl (a_3, a_5, 0, a_2.Loc) : ((Arr Int 400) × (List api_Act) × Int × Int) ⊕ ((List Int) × (List api_Act) × Int × Int))) else (some (Sum.inr ((a_4, a_5, a_2.To, 0)) : ((Arr Int 400) × (List api_Act) × Int × Int) ⊕ ((List Int) × (List api_Act) × Int × Int)))) else (if a_2.Op = 12 then ((tree_runner_cases_2.m a_1 a_2 v_7 v_9 a_3 a_4 a_5).bind fun r_64 => some (Sum.inr ((r_64.1, r_64.2.1, r_64.2.2.1, r_64.2.2.2)) : ((Arr Int 400) × (List api_Act) × Int × Int) ⊕ ((List Int) × (List api_Act) × Int × Int))) else (if a_2.Op = 18 then (some (Sum.inr ((a_4, a_5, 0, 1)) : ((Arr Int 400) × (List api_Act) × Int × Int) ⊕ ((List Int) × (List api_Act) × Int × Int))) else (some (Sum.inl (a_3, a_5, 0, a_2.Loc) : ((Arr Int 400) × (List api_Act) × Int × Int) ⊕ ((List Int) × (List api_Act) × Int × Int)))))))))))))))))) : Option (((Arr Int 400) × (List api_Act) × Int × Int) ⊕ ((List Int) × (List api_Act) × Int × Int))).bind fun o_10 => match o_10 with | Sum.inl s_67 => (if s_67.2.2.1 = 0 then (some (s_67.1, a_4, s_67.2.1, (wr .i64 (a_1 + 1)), 0)) else ((tree_runner_ask.m a_2 s_67.2.2.1 s_67.2.2.2 s_67.1 a_4 s_67.2.1).bind fun r_70 => if r_70.2.2.2 = true then (some (r_70.1, r_70.2.1, r_70.2.2.1, (wr .i64 (a_1 + 1)), 0)) else (some (r_70.1, r_70.2.1, r_70.2.2.1, 0, 4)))) | Sum.inr (s_68) => (some (a_3, s_68.1, s_68.2.1, s_68.2.2.1, s_68.2.2.2))) else none) else none
noncomputable def tree_runner_do_2.o (a_1 : Int) (a_2 : api_Ins) (a_3 : Arr Int 400) (a_4 : List Int) (a_5 : List api_Act) (r : (Arr Int 400) × (List Int) × (List api_Act) × Int × Int) : Out := .ret (.tup [vi r.2.2.2.1, vi r.2.2.2.2]) [.seg [.a 1 400 (r.1.l.map (cI .i64)), .c (.ro false 1 r.2.1.length (r.2.1.map (cI .i64))), .c (sL 1 r.2.2.1)], .arr true 64 4 r.2.2.1.length (r.2.2.1.map api_Act.c)] []
theorem tree_runner_do_2.ev {a_1 : Int} {a_2 : api_Ins} {a_3 : Arr Int 400} {a_4 : List Int} {a_5 : List api_Act} {r : (Arr Int 400) × (List Int) × (List api_Act) × Int × Int} (H : tree_runner_do_2.m a_1 a_2 a_3 a_4 a_5 = some r) : Ev Try.prog 34 [.ref 0 0, vi a_1, .agg (api_Ins.c a_2)] [.seg [.a 1 400 (a_3.l.map (cI .i64)), .c (.ro false 1 a_4.length (a_4.map (cI .i64))), .c (sL 1 a_5)], .arr true 64 4 a_5.length (a_5.map api_Act.c)] [] (tree_runner_do_2.o a_1 a_2 a_3 a_4 a_5 r) := by
 unfold tree_runner_do_2.m at H
 obtain ⟨g_6, H⟩ := gdE H
 let v_7 : Int := a_3.g a_2.A
 replace H := ltD H
 obtain ⟨g_8, H⟩ := gdE H
 let v_9 : Int := a_3.g a_2.B
 replace H := ltD H
 obtain ⟨o_10, e_11, H⟩ := bdE H
 have j_12 : Rq tree_runner_do_2.F 2 [1, 1, 1, 1, 0, 1] ⟨[(1, vi a_1), (3, .ref 2 0), (5, .ref 3 0), (8, vi v_7), (9, vi v_9), (10, .fn 75 [] [.ref 2 0]), (11, vi 0), (12, vi a_2.Loc), (31, vi a_2.Op)], [.seg [.a 1 400 (a_3.l.map (cI .i64)), .c (.ro false 1 a_4.length (a_4.map (cI .i64))), .c (sL 1 a_5)], .arr true 64 4 a_5.length (a_5.map api_Act.c), .box [.ref 0 0], .box (api_Ins.c a_2)], []⟩ ((fun o => match o with | Sum.inl _ => .normal | Sum.inr (_) => .ret : (((Arr Int 400) × (List api_Act) × Int × Int) ⊕ ((List Int) × (List api_Act) × Int × Int)) → Ex) o_10) ((fun o => match o with | Sum.inl s_67 => ⟨[(1, vi a_1), (3, .ref 2 0), (5, .ref 3 0), (11, vi s_67.2.2.1), (12, vi s_67.2.2.2)], [.seg [.a 1 400 (s_67.1.l.map (cI .i64)), .c (.ro false 1 a_4.length (a_4.map (cI .i64))), .c (sL 1 s_67.2.1)], .arr true 64 4 s_67.2.1.length (s_67.2.1.map api_Act.c), .box [.ref 0 0], .box (api_Ins.c a_2)], []⟩ | Sum.inr (s_68) => ⟨[(6, vi s_68.2.2.1), (7, vi s_68.2.2.2)], [.seg [.a 1 400 (a_3.l.map (cI .i64)), .c (.ro false 1 s_68.1.length (s_68.1.map (cI .i64))), .c (sL 1 s_68.2.1)], .arr true 64 4 s_68.2.1.length (s_68.2.1.map api_Act.c)], []⟩ : (((Arr Int 400) × (List api_Act) × Int × Int) ⊕ ((List Int) × (List api_Act) × Int × Int)) → ASt) o_10) := by
  clear H
  have H := e_11
  clear e_11
  rcases ic H with ⟨h_13, H⟩ | ⟨h_13, H⟩
  ·obtain ⟨g_14, H⟩ := gdE H
   let v_15 : Arr Int 400 := a_3.s a_2.D a_2.K
   replace H := ltD H
   obtain rfl := sj H
   exact fn [br h_13, pf g_14, sgs (cI .i64) a_3 0 0 [vi a_2.K] a_2.K g_14 (by kernel_rfl)]
  ·rcases ic H with ⟨h_16, H⟩ | ⟨h_16, H⟩
   ·obtain ⟨g_17, H⟩ := gdE H
    let v_18 : Arr Int 400 := a_3.s a_2.D (wr .i64 (v_7 + v_9))
    replace H := ltD H
    obtain rfl := sj H
    exact fn [br h_13, br h_16, pf g_17, sgs (cI .i64) a_3 0 0 [vi (wr .i64 (v_7 + v_9))] (wr .i64 (v_7 + v_9)) g_17 (by kernel_rfl)]
   ·rcases ic H with ⟨h_19, H⟩ | ⟨h_19, H⟩
    ·obtain ⟨g_20, H⟩ := gdE H
     let v_21 : Arr Int 400 := a_3.s a_2.D (wr .i64 (v_7 - v_9))
     replace H := ltD H
     obtain rfl := sj H
     exact fn [br h_13, br h_16, br h_19, pf g_20, sgs (cI .i64) a_3 0 0 [vi (wr .i64 (v_7 - v_9))] (wr .i64 (v_7 - v_9)) g_20 (by kernel_rfl)]
    ·rcases ic H with ⟨h_22, H⟩ | ⟨h_22, H⟩
     ·obtain ⟨g_23, H⟩ := gdE H
      let v_24 : Arr Int 400 := a_3.s a_2.D (wr .i64 (v_7 * v_9))
      replace H := ltD H
      obtain rfl := sj H
      exact fn [br h_13, br h_16, br h_19, br h_22, pf g_23, sgs (cI .i64) a_3 0 0 [vi (wr .i64 (v_7 * v_9))] (wr .i64 (v_7 * v_9)) g_23 (by kernel_rfl)]
     ·rcases ic H with ⟨h_25, H⟩ | ⟨h_25, H⟩
      ·rcases ic H with ⟨h_26, H⟩ | ⟨h_26, H⟩
       ·obtain rfl := sj H
        exact fn [br h_13, br h_16, br h_19, br h_22, br h_25, br h_26]
       ·obtain ⟨g_27, H⟩ := gdE H
        obtain ⟨g_28, H⟩ := gdE H
        let v_29 : Arr Int 400 := a_3.s a_2.D (wr .i64 (Int.tdiv v_7 v_9))
        replace H := ltD H
        obtain rfl := sj H
        exact fn [br h_13, br h_16, br h_19, br h_22, br h_25, br h_26, pf g_27, pf g_28, sgs (cI .i64) a_3 0 0 [vi (wr .i64 (Int.tdiv v_7 v_9))] (wr .i64 (Int.tdiv v_7 v_9)) g_28 (by kernel_rfl)]
      ·rcases ic H with ⟨h_30, H⟩ | ⟨h_30, H⟩
       ·obtain rfl := sj H
        exact fn [br h_13, br h_16, br h_19, br h_22, br h_25, br h_30]
       ·rcases ic H with ⟨h_31, H⟩ | ⟨h_31, H⟩
        ·obtain rfl := sj H
         exact fn [br h_13, br h_16, br h_19, br h_22, br h_25, br h_30, br h_31]
        ·obtain ⟨o_32, e_33, H⟩ := bdE H
         have j_34 : Rq tree_runner_do_2.F 2 [1, 1, 1, 1, 0, 1, 0, 1, 1, 1, 1, 1, 1, 1, 1, 1, 1, 1, 1, 1, 1, 0, 1] ⟨[(1, vi a_1), (3, .ref 2 0), (5, .ref 3 0), (8, vi v_7), (9, vi v_9), (10, .fn 75 [] [.ref 2 0]), (11, vi 0), (12, vi a_2.Loc), (31, vi a_2.Op), (92, .v (.bool (decide (a_2.Op = 10))))], [.seg [.a 1 400 (a_3.l.map (cI .i64)), .c (.ro false 1 a_4.length (a_4.map (cI .i64))), .c (sL 1 a_5)], .arr true 64 4 a_5.length (a_5.map api_Act.c), .box [.ref 0 0], .box (api_Ins.c a_2)], []⟩ ((fun _ => .normal : Bool → Ex) o_32) ((fun o_32 => ⟨[(1, vi a_1), (3, .ref 2 0), (5, .ref 3 0), (8, vi v_7), (9, vi v_9), (10, .fn 75 [] [.ref 2 0]), (11, vi 0), (12, vi a_2.Loc), (31, vi a_2.Op), (92, .v (.bool o_32))], [.seg [.a 1 400 (a_3.l.map (cI .i64)), .c (.ro false 1 a_4.length (a_4.map (cI .i64))), .c (sL 1 a_5)], .arr true 64 4 a_5.length (a_5.map api_Act.c), .box [.ref 0 0], .box (api_Ins.c a_2)], []⟩ : Bool → ASt) o_32) := by
          clear H
          have H := e_33
          clear e_33
          rcases ic H with ⟨h_35, H⟩ | ⟨h_35, H⟩
          ·obtain rfl := sj H
           exact fn [br h_35]
          ·obtain rfl := sj H
           exact fn [br h_35]
         rcases ie H with ⟨h_36, H⟩ | ⟨h_36, H⟩
         ·obtain rfl := sj H
          exact fn [br h_13, br h_16, br h_19, br h_22, br h_25, br h_30, br h_31, sc_ j_34, br h_36]
         ·rcases ic H with ⟨h_37, H⟩ | ⟨h_37, H⟩
          ·obtain ⟨r_38, e_39, H⟩ := bdE H
           obtain rfl := sj H
           exact fn [br h_13, br h_16, br h_19, br h_22, br h_25, br h_30, br h_31, sc_ j_34, br h_36, br h_37, ca [2, 0, 1] (tree_runner_do_1_2.ev e_39)]
          ·rcases ic H with ⟨h_40, H⟩ | ⟨h_40, H⟩
           ·obtain ⟨r_41, e_42, H⟩ := bdE H
            obtain rfl := sj H
            exact fn [br h_13, br h_16, br h_19, br h_22, br h_25, br h_30, br h_31, sc_ j_34, br h_36, br h_37, br h_40, ca [2, 0, 1] (tree_runner_do_1_2.ev e_42)]
           ·obtain ⟨o_43, e_44, H⟩ := bdE H
            have j_45 : Rq tree_runner_do_2.F 2 [1, 1, 1, 1, 0, 1, 0, 1, 1, 1, 1, 1, 1, 1, 1, 1, 1, 1, 1, 1, 1, 1, 1, 1, 1, 1, 1, 0, 1] ⟨[(1, vi a_1), (3, .ref 2 0), (5, .ref 3 0), (8, vi v_7), (9, vi v_9), (10, .fn 75 [] [.ref 2 0]), (11, vi 0), (12, vi a_2.Loc), (31, vi a_2.Op), (107, .v (.bool (decide (a_2.Op = 13))))], [.seg [.a 1 400 (a_3.l.map (cI .i64)), .c (.ro false 1 a_4.length (a_4.map (cI .i64))), .c (sL 1 a_5)], .arr true 64 4 a_5.length (a_5.map api_Act.c), .box [.ref 0 0], .box (api_Ins.c a_2)], []⟩ ((fun _ => .normal : Bool → Ex) o_43) ((fun o_43 => ⟨[(1, vi a_1), (3, .ref 2 0), (5, .ref 3 0), (8, vi v_7), (9, vi v_9), (10, .fn 75 [] [.ref 2 0]), (11, vi 0), (12, vi a_2.Loc), (31, vi a_2.Op), (107, .v (.bool o_43))], [.seg [.a 1 400 (a_3.l.map (cI .i64)), .c (.ro false 1 a_4.length (a_4.map (cI .i64))), .c (sL 1 a_5)], .arr true 64 4 a_5.length (a_5.map api_Act.c), .box [.ref 0 0], .box (api_Ins.c a_2)], []⟩ : Bool → ASt) o_43) := by
             clear H
             have H := e_44
             clear e_44
             rcases ic H with ⟨h_46, H⟩ | ⟨h_46, H⟩
             ·obtain rfl := sj H
              exact fn [br h_46]
             ·obtain rfl := sj H
              exact fn [br h_46]
            rcases ie H with ⟨h_47, H⟩ | ⟨h_47, H⟩
            ·obtain ⟨o_48, e_49, H⟩ := bdE H
             have j_50 : Rq tree_runner_do_2.F 2 [1, 1, 1, 1, 0, 1, 0, 1, 1, 1, 1, 1, 1, 1, 1, 1, 1, 1, 1, 1, 1, 1, 1, 1, 1, 1, 1, 1, 0, 0, 0] ⟨[(1, vi a_1), (3, .ref 2 0), (5, .ref 3 0), (8, vi v_7), (9, vi v_9), (10, .fn 75 [] [.ref 2 0]), (11, vi 0), (12, vi a_2.Loc)], [.seg [.a 1 400 (a_3.l.map (cI .i64)), .c (.ro false 1 a_4.length (a_4.map (cI .i64))), .c (sL 1 a_5)], .arr true 64 4 a_5.length (a_5.map api_Act.c), .box [.ref 0 0], .box (api_Ins.c a_2)], []⟩ ((fun _ => .normal : Bool → Ex) o_48) ((fun o_48 => ⟨[(1, vi a_1), (3, .ref 2 0), (5, .ref 3 0), (8, vi v_7), (9, vi v_9), (10, .fn 75 [] [.ref 2 0]), (11, vi 0), (12, vi a_2.Loc), (117, .v (.bool o_48))], [.seg [.a 1 400 (a_3.l.map (cI .i64)), .c (.ro false 1 a_4.length (a_4.map (cI .i64))), .c (sL 1 a_5)], .arr true 64 4 a_5.length (a_5.map api_Act.c), .box [.ref 0 0], .box (api_Ins.c a_2)], []⟩ : Bool → ASt) o_48) := by
              clear H
              have H := e_49
              clear e_49
              rcases ic H with ⟨h_51, H⟩ | ⟨h_51, H⟩
              ·obtain rfl := sj H
               exact fn [br h_51, pT]
              ·obtain rfl := sj H
               exact fn [br h_51, pF]
             rcases ie H with ⟨h_52, H⟩ | ⟨h_52, H⟩
             ·obtain rfl := sj H
              exact fn [br h_13, br h_16, br h_19, br h_22, br h_25, br h_30, br h_31, sc_ j_34, br h_36, br h_37, br h_40, sc_ j_45, br h_47, sg_ 30 j_50, br h_52]
             ·rcases ic H with ⟨h_53, H⟩ | ⟨h_53, H⟩
              ·obtain ⟨r_54, e_55, H⟩ := bdE H
               obtain rfl := sj H
               exact fn [br h_13, br h_16, br h_19, br h_22, br h_25, br h_30, br h_31, sc_ j_34, br h_36, br h_37, br h_40, sc_ j_45, br h_47, sg_ 30 j_50, br h_52, br h_53, ca [2, 0, 1] (tree_runner_do_1_2.ev e_55)]
              ·obtain rfl := sj H
               exact fn [br h_13, br h_16, br h_19, br h_22, br h_25, br h_30, br h_31, sc_ j_34, br h_36, br h_37, br h_40, sc_ j_45, br h_47, sg_ 30 j_50, br h_52, br h_53]
            ·rcases ic H with ⟨h_56, H⟩ | ⟨h_56, H⟩
             ·obtain ⟨r_57, e_58, H⟩ := bdE H
              obtain rfl := sj H
              exact fn [br h_13, br h_16, br h_19, br h_22, br h_25, br h_30, br h_31, sc_ j_34, br h_36, br h_37, br h_40, sc_ j_45, br h_47, br h_56, ca [2, 0, 1] (tree_runner_do_1_2.ev e_58)]
             ·rcases ic H with ⟨h_59, H⟩ | ⟨h_59, H⟩
              ·rcases ic H with ⟨h_60, H⟩ | ⟨h_60, H⟩
               ·obtain rfl := sj H
                exact fn [br h_13, br h_16, br h_19, br h_22, br h_25, br h_30, br h_31, sc_ j_34, br h_36, br h_37, br h_40, sc_ j_45, br h_47, br h_56, br h_59, br h_60]
               ·obtain rfl := sj H
                exact fn [br h_13, br h_16, br h_19, br h_22, br h_25, br h_30, br h_31, sc_ j_34, br h_36, br h_37, br h_40, sc_ j_45, br h_47, br h_56, br h_59, br h_60]
              ·rcases ic H with ⟨h_61, H⟩ | ⟨h_61, H⟩
               ·rcases ic H with ⟨h_62, H⟩ | ⟨h_62, H⟩
                ·obtain rfl := sj H
                 exact fn [br h_13, br h_16, br h_19, br h_22, br h_25, br h_30, br h_31, sc_ j_34, br h_36, br h_37, br h_40, sc_ j_45, br h_47, br h_56, br h_59, br h_61, bn h_62]
                ·obtain rfl := sj H
                 exact fn [br h_13, br h_16, br h_19, br h_22, br h_25, br h_30, br h_31, sc_ j_34, br h_36, br h_37, br h_40, sc_ j_45, br h_47, br h_56, br h_59, br h_61, bn h_62]
               ·rcases ic H with ⟨h_63, H⟩ | ⟨h_63, H⟩
                ·obtain ⟨r_64, e_65, H⟩ := bdE H
                 obtain rfl := sj H
                 exact fn [br h_13, br h_16, br h_19, br h_22, br h_25, br h_30, br h_31, sc_ j_34, br h_36, br h_37, br h_40, sc_ j_45, br h_47, br h_56, br h_59, br h_61, br h_63, ca [0, 1] (tree_runner_cases_2.ev e_65)]
                ·rcases ic H with ⟨h_66, H⟩ | ⟨h_66, H⟩
                 ·obtain rfl := sj H
                  exact fn [br h_13, br h_16, br h_19, br h_22, br h_25, br h_30, br h_31, sc_ j_34, br h_36, br h_37, br h_40, sc_ j_45, br h_47, br h_56, br h_59, br h_61, br h_63, br h_66]
                 ·obtain rfl := sj H
                  exact fn [br h_13, br h_16, br h_19, br h_22, br h_25, br h_30, br h_31, sc_ j_34, br h_36, br h_37, br h_40, sc_ j_45, br h_47, br h_56, br h_59, br h_61, br h_63, br h_66]
 rcases o_10 with s_67 | s_68
 ·rcases ic H with ⟨h_69, H⟩ | ⟨h_69, H⟩
  ·obtain rfl := sj H
   exact tree_runner_do_2.F.run tb mixed [pf g_6, sgl (cI .i64) a_3 0 0 g_6, pf g_8, sgl (cI .i64) a_3 0 0 g_8, sb_ j_12, bn h_69, pF, au] rfl (by kernel_rfl)
  ·obtain ⟨r_70, e_71, H⟩ := bdE H
   rcases ie H with ⟨h_72, H⟩ | ⟨h_72, H⟩
   ·obtain rfl := sj H
    exact tree_runner_do_2.F.run tb mixed [pf g_6, sgl (cI .i64) a_3 0 0 g_6, pf g_8, sgl (cI .i64) a_3 0 0 g_8, sb_ j_12, bn h_69, ca [0, 1] (tree_runner_ask.ev e_71), pT, bn h_72] rfl (by kernel_rfl)
   ·obtain rfl := sj H
    exact tree_runner_do_2.F.run tb mixed [pf g_6, sgl (cI .i64) a_3 0 0 g_6, pf g_8, sgl (cI .i64) a_3 0 0 g_8, sb_ j_12, bn h_69, ca [0, 1] (tree_runner_ask.ev e_71), pT, bn h_72] rfl (by kernel_rfl)
 ·obtain rfl := sj H
  exact tree_runner_do_2.F.run tb mixed [pf g_6, sgl (cI .i64) a_3 0 0 g_6, pf g_8, sgl (cI .i64) a_3 0 0 g_8, sb_ j_12] rfl (by kernel_rfl)
noncomputable def tree_Run.F : FI Try.prog 16 := fi Try.f16 38 Try.call16 Try.func16
def tree_Run.l1 (a_1 : List api_Ins) (s_9 : (Arr Int 400) × (List Int) × (List api_Act) × Int) : Option (((Arr Int 400) × (List Int) × (List api_Act) × Int) ⊕ (Int × (List api_Act))) :=
 if 0 ≤ s_9.2.2.2 ∧ s_9.2.2.2 < (a_1.length : Int) then (letC (gi a_1 s_9.2.2.2) fun v_14 => (tree_runner_do_2.m s_9.2.2.2 v_14 s_9.1 s_9.2.1 s_9.2.2.1).bind fun r_15 => if r_15.2.2.2.2 = 0 then (some (Sum.inl (r_15.1, r_15.2.1, r_15.2.2.1, r_15.2.2.2.1))) else (some (Sum.inr (r_15.2.2.2.2, r_15.2.2.1)))) else none
def tree_Run.m (a_1 : List api_Ins) (a_2 : List api_Loc) (a_3 : List Int) : Option (((List api_Act) × Int) ⊕ Unit) :=
 (tree_Right.m a_1 a_2).bind fun r_4 => if r_4 = true then ((B.loop (tree_Run.l1 a_1) (((Arr.r 400 (0 : Int) : Arr Int 400), a_3, ([] : List api_Act), 0) : (Arr Int 400) × (List Int) × (List api_Act) × Int)).bind fun o_10 => some (Sum.inl (o_10.2, o_10.1))) else (some (Sum.inr (())))
noncomputable def tree_Run.o (a_1 : List api_Ins) (a_2 : List api_Loc) (a_3 : List Int) (r : ((List api_Act) × Int) ⊕ Unit) : Out := match r with | Sum.inl r => .ret (.agg [sL 2 r.1, vi r.2]) [.dead, .dead, .arr true 64 4 r.1.length (r.1.map api_Act.c)] [] | Sum.inr (r) => .ret (.agg [.v (.slice none 0 0), vi 0]) [] []
theorem tree_Run.ev {a_1 : List api_Ins} {a_2 : List api_Loc} {a_3 : List Int} {r : ((List api_Act) × Int) ⊕ Unit} (H : tree_Run.m a_1 a_2 a_3 = some r) : Ev Try.prog 16 [.ro false 8 a_1.length (a_1.map api_Ins.c), .ro false 2 a_2.length (a_2.map api_Loc.c), .ro false 1 a_3.length (a_3.map (cI .i64))] [] [] (tree_Run.o a_1 a_2 a_3 r) := by
 unfold tree_Run.m at H
 obtain ⟨r_4, e_5, H⟩ := bdE H
 rcases ie H with ⟨h_6, H⟩ | ⟨h_6, H⟩
 ·obtain ⟨o_10, e_11, H⟩ := bdE H
  have j_12 := Runs.loop (P := Try.prog) (N := tree_Run.F.N) (m0 := 0) (c := sub_ tree_Run.F.c [1, 1, 1, 1, 0, 0]) (f := (tree_Run.l1 a_1)) (St := fun s_9 => ⟨[(0, .ro false 8 a_1.length (a_1.map api_Ins.c)), (6, .ref 0 0), (7, .ref 1 0), (8, vi s_9.2.2.2)], [.box [.v (.slice none 0 0), vi 0], .seg [.a 1 400 (s_9.1.l.map (cI .i64)), .c (.ro false 1 s_9.2.1.length (s_9.2.1.map (cI .i64))), .c (sL 2 s_9.2.2.1)], .arr true 64 4 s_9.2.2.1.length (s_9.2.2.1.map api_Act.c)], []⟩) (xo := (fun _ => .ret : (Int × (List api_Act)) → Ex)) (So := (fun o_10 => ⟨[(6, .ref 0 0)], [.box [sL 2 o_10.2, vi o_10.1], .dead, .arr true 64 4 o_10.2.length (o_10.2.map api_Act.c)], []⟩ : (Int × (List api_Act)) → ASt)) (by intro o; simp) (fun s_9 z H => by
   unfold tree_Run.l1 at H
   obtain ⟨g_13, H⟩ := gdE H
   let v_14 : api_Ins := gi a_1 s_9.2.2.2
   replace H := ltD H
   obtain ⟨r_15, e_16, H⟩ := bdE H
   rcases ic H with ⟨h_17, H⟩ | ⟨h_17, H⟩
   ·obtain rfl := sj H
    exact fn [ix api_Ins.c g_13, ca [1, 2] (tree_runner_do_2.ev e_16), bn h_17]
   ·obtain rfl := sj H
    exact fn [ix api_Ins.c g_13, ca [1, 2] (tree_runner_do_2.ev e_16), bn h_17] (by kernel_rfl)) e_11
  obtain rfl := sj H
  exact tree_Run.F.run tb mixed [ca [] (tree_Right.ev e_5), bn h_6, on_ 18 (sgn [.a 1 400 ((Arr.r 400 (0 : Int) : Arr Int 400).l.map (cI .i64)), .c (.ro false 1 a_3.length (a_3.map (cI .i64))), .c (.v (.slice none 0 0))]), su j_12, adB 1 2 (some 64) 4] rfl (by kernel_rfl)
 ·obtain rfl := sj H
  exact tree_Run.F.run tb mixed [ca [] (tree_Right.ev e_5), bn h_6] rfl (by kernel_rfl)
noncomputable def selvageref08_Same_2.F : FI Try.prog 19 := fi Try.f19 26 Try.call19 Try.func19
def selvageref08_Same_2.l1 (a_1 : List api_Act) (a_2 : List api_Act) (s_6 : Int) : Option (Int ⊕ (Unit ⊕ Unit)) :=
 if s_6 < (a_1.length : Int) then (if 0 ≤ s_6 ∧ s_6 < (a_1.length : Int) then (letC (gi a_1 s_6) fun v_14 => if 0 ≤ s_6 ∧ s_6 < (a_2.length : Int) then (letC (gi a_2 s_6) fun v_16 => if ((v_14.Kind == v_16.Kind) && ((v_14.Loc == v_16.Loc) && ((v_14.Old == v_16.Old) && ((v_14.New == v_16.New) && true)))) = true then (some (Sum.inl (wr .i64 (s_6 + 1)))) else (some (Sum.inr (Sum.inl ())))) else none) else none) else (some (Sum.inr (Sum.inr (()))))
def selvageref08_Same_2.m (a_1 : List api_Act) (a_2 : List api_Act) : Option (Bool) :=
 if (a_1.length : Int) = (a_2.length : Int) then ((B.loop (selvageref08_Same_2.l1 a_1 a_2) (0 : Int)).bind fun o_7 => match o_7 with | Sum.inl s_10 => (some false) | Sum.inr (s_11) => (some true)) else (some false)
noncomputable def selvageref08_Same_2.o (a_1 : List api_Act) (a_2 : List api_Act) (r : Bool) : Out := .ret (.v (.bool r)) [.arr true 64 4 a_1.length (a_1.map api_Act.c), .arr true 64 4 a_2.length (a_2.map api_Act.c)] []
theorem selvageref08_Same_2.ev {a_1 : List api_Act} {a_2 : List api_Act} {r : Bool} (H : selvageref08_Same_2.m a_1 a_2 = some r) : Ev Try.prog 19 [sL 0 a_1, sL 1 a_2] [.arr true 64 4 a_1.length (a_1.map api_Act.c), .arr true 64 4 a_2.length (a_2.map api_Act.c)] [] (selvageref08_Same_2.o a_1 a_2 r) := by
 unfold selvageref08_Same_2.m at H
 rcases ic H with ⟨h_3, H⟩ | ⟨h_3, H⟩
 ·obtain ⟨o_7, e_8, H⟩ := bdE H
  have j_9 := Runs.loop (P := Try.prog) (N := selvageref08_Same_2.F.N) (m0 := 2) (c := sub_ selvageref08_Same_2.F.c [1, 1, 0, 1, 0, 0]) (f := (selvageref08_Same_2.l1 a_1 a_2)) (St := fun s_6 => ⟨[(0, sL 0 a_1), (1, sL 1 a_2), (5, vi s_6)], [.arr true 64 4 a_1.length (a_1.map api_Act.c), .arr true 64 4 a_2.length (a_2.map api_Act.c)], []⟩) (xo := (fun o => match o with | Sum.inl _ => .ret | Sum.inr (_) => (.exit 0) : (Unit ⊕ Unit) → Ex)) (So := (fun o => match o with | Sum.inl s_10 => ⟨[(4, .v (.bool false))], [.arr true 64 4 a_1.length (a_1.map api_Act.c), .arr true 64 4 a_2.length (a_2.map api_Act.c)], []⟩ | Sum.inr (s_11) => ⟨[], [.arr true 64 4 a_1.length (a_1.map api_Act.c), .arr true 64 4 a_2.length (a_2.map api_Act.c)], []⟩ : (Unit ⊕ Unit) → ASt)) (by intro o; rcases o with _ | _ <;> simp) (fun s_6 z H => by
   unfold selvageref08_Same_2.l1 at H
   rcases ic H with ⟨h_12, H⟩ | ⟨h_12, H⟩
   ·obtain ⟨g_13, H⟩ := gdE H
    let v_14 : api_Act := gi a_1 s_6
    replace H := ltD H
    obtain ⟨g_15, H⟩ := gdE H
    let v_16 : api_Act := gi a_2 s_6
    replace H := ltD H
    rcases ie H with ⟨h_17, H⟩ | ⟨h_17, H⟩
    ·obtain rfl := sj H
     exact fn [br h_12, pf g_13, el api_Act.c g_13, pf g_15, el api_Act.c g_15, eqs (P := Try.prog) (xt := 64) ⟨by kernel_rfl, by kernel_rfl⟩, bn h_17]
    ·obtain rfl := sj H
     exact fn [br h_12, pf g_13, el api_Act.c g_13, pf g_15, el api_Act.c g_15, eqs (P := Try.prog) (xt := 64) ⟨by kernel_rfl, by kernel_rfl⟩, bn h_17]
   ·obtain rfl := sj H
    exact fn [br h_12] (by kernel_rfl)) e_8
  rcases o_7 with s_10 | s_11
  ·obtain rfl := sj H
   exact selvageref08_Same_2.F.run tb mixed [bn h_3, su j_9] rfl (by kernel_rfl)
  ·obtain rfl := sj H
   exact selvageref08_Same_2.F.run tb mixed [bn h_3, su j_9] rfl (by kernel_rfl)
 ·obtain rfl := sj H
  exact selvageref08_Same_2.F.run tb mixed [bn h_3] rfl (by kernel_rfl)
noncomputable def selvageref08_SameTrace.F : FI Try.prog 18 := fi Try.f18 17 Try.call18 Try.func18
def selvageref08_SameTrace.m (a_1 : Int) (a_2 : Int) (a_3 : List api_Act) (a_4 : List api_Act) : Option (Bool) :=
 if a_1 = a_2 then ((selvageref08_Same_2.m a_3 a_4).bind fun r_6 => some r_6) else (some false)
noncomputable def selvageref08_SameTrace.o (a_1 : Int) (a_2 : Int) (a_3 : List api_Act) (a_4 : List api_Act) (r : Bool) : Out := .ret (.v (.bool r)) [.arr true 64 4 a_3.length (a_3.map api_Act.c), .arr true 64 4 a_4.length (a_4.map api_Act.c)] []
theorem selvageref08_SameTrace.ev {a_1 : Int} {a_2 : Int} {a_3 : List api_Act} {a_4 : List api_Act} {r : Bool} (H : selvageref08_SameTrace.m a_1 a_2 a_3 a_4 = some r) : Ev Try.prog 18 [.agg [sL 0 a_3, vi a_1], .agg [sL 1 a_4, vi a_2]] [.arr true 64 4 a_3.length (a_3.map api_Act.c), .arr true 64 4 a_4.length (a_4.map api_Act.c)] [] (selvageref08_SameTrace.o a_1 a_2 a_3 a_4 r) := by
 unfold selvageref08_SameTrace.m at H
 rcases ic H with ⟨h_5, H⟩ | ⟨h_5, H⟩
 ·obtain ⟨r_6, e_7, H⟩ := bdE H
  obtain rfl := sj H
  exact selvageref08_SameTrace.F.run tb mixed [br h_5, ca [0, 1] (selvageref08_Same_2.ev e_7), pT] rfl (by kernel_rfl)
 ·obtain rfl := sj H
  exact selvageref08_SameTrace.F.run tb mixed [br h_5, pF] rfl (by kernel_rfl)
noncomputable def selvageref08_Same_3.F : FI Try.prog 19 := fi Try.f19 26 Try.call19 Try.func19
def selvageref08_Same_3.l1 (a_1 : List api_Act) (a_2 : List api_Act) (s_6 : Int) : Option (Int ⊕ (Unit ⊕ Unit)) :=
 if s_6 < (a_2.length : Int) then (if 0 ≤ s_6 ∧ s_6 < (a_2.length : Int) then (letC (gi a_2 s_6) fun v_14 => if 0 ≤ s_6 ∧ s_6 < (a_1.length : Int) then (letC (gi a_1 s_6) fun v_16 => if ((v_14.Kind == v_16.Kind) && ((v_14.Loc == v_16.Loc) && ((v_14.Old == v_16.Old) && ((v_14.New == v_16.New) && true)))) = true then (some (Sum.inl (wr .i64 (s_6 + 1)))) else (some (Sum.inr (Sum.inl ())))) else none) else none) else (some (Sum.inr (Sum.inr (()))))
def selvageref08_Same_3.m (a_1 : List api_Act) (a_2 : List api_Act) : Option (Bool) :=
 if (a_2.length : Int) = (a_1.length : Int) then ((B.loop (selvageref08_Same_3.l1 a_1 a_2) (0 : Int)).bind fun o_7 => match o_7 with | Sum.inl s_10 => (some false) | Sum.inr (s_11) => (some true)) else (some false)
noncomputable def selvageref08_Same_3.o (a_1 : List api_Act) (a_2 : List api_Act) (r : Bool) : Out := .ret (.v (.bool r)) [.arr true 64 4 a_2.length (a_2.map api_Act.c)] []
theorem selvageref08_Same_3.ev {a_1 : List api_Act} {a_2 : List api_Act} {r : Bool} (H : selvageref08_Same_3.m a_1 a_2 = some r) : Ev Try.prog 19 [sL 0 a_2, .ro false 4 a_1.length (a_1.map api_Act.c)] [.arr true 64 4 a_2.length (a_2.map api_Act.c)] [] (selvageref08_Same_3.o a_1 a_2 r) := by
 unfold selvageref08_Same_3.m at H
 rcases ic H with ⟨h_3, H⟩ | ⟨h_3, H⟩
 ·obtain ⟨o_7, e_8, H⟩ := bdE H
  have j_9 := Runs.loop (P := Try.prog) (N := selvageref08_Same_3.F.N) (m0 := 1) (c := sub_ selvageref08_Same_3.F.c [1, 1, 0, 1, 0, 0]) (f := (selvageref08_Same_3.l1 a_1 a_2)) (St := fun s_6 => ⟨[(0, sL 0 a_2), (1, .ro false 4 a_1.length (a_1.map api_Act.c)), (5, vi s_6)], [.arr true 64 4 a_2.length (a_2.map api_Act.c)], []⟩) (xo := (fun o => match o with | Sum.inl _ => .ret | Sum.inr (_) => (.exit 0) : (Unit ⊕ Unit) → Ex)) (So := (fun o => match o with | Sum.inl s_10 => ⟨[(4, .v (.bool false))], [.arr true 64 4 a_2.length (a_2.map api_Act.c)], []⟩ | Sum.inr (s_11) => ⟨[], [.arr true 64 4 a_2.length (a_2.map api_Act.c)], []⟩ : (Unit ⊕ Unit) → ASt)) (by intro o; rcases o with _ | _ <;> simp) (fun s_6 z H => by
   unfold selvageref08_Same_3.l1 at H
   rcases ic H with ⟨h_12, H⟩ | ⟨h_12, H⟩
   ·obtain ⟨g_13, H⟩ := gdE H
    let v_14 : api_Act := gi a_2 s_6
    replace H := ltD H
    obtain ⟨g_15, H⟩ := gdE H
    let v_16 : api_Act := gi a_1 s_6
    replace H := ltD H
    rcases ie H with ⟨h_17, H⟩ | ⟨h_17, H⟩
    ·obtain rfl := sj H
     exact fn [br h_12, pf g_13, el api_Act.c g_13, ix api_Act.c g_15, eqs (P := Try.prog) (xt := 64) ⟨by kernel_rfl, by kernel_rfl⟩, bn h_17]
    ·obtain rfl := sj H
     exact fn [br h_12, pf g_13, el api_Act.c g_13, ix api_Act.c g_15, eqs (P := Try.prog) (xt := 64) ⟨by kernel_rfl, by kernel_rfl⟩, bn h_17]
   ·obtain rfl := sj H
    exact fn [br h_12] (by kernel_rfl)) e_8
  rcases o_7 with s_10 | s_11
  ·obtain rfl := sj H
   exact selvageref08_Same_3.F.run tb mixed [bn h_3, su j_9] rfl (by kernel_rfl)
  ·obtain rfl := sj H
   exact selvageref08_Same_3.F.run tb mixed [bn h_3, su j_9] rfl (by kernel_rfl)
 ·obtain rfl := sj H
  exact selvageref08_Same_3.F.run tb mixed [bn h_3] rfl (by kernel_rfl)
noncomputable def selvageref08_SameTrace_2.F : FI Try.prog 18 := fi Try.f18 17 Try.call18 Try.func18
def selvageref08_SameTrace_2.m (a_1 : Int) (a_2 : Int) (a_3 : List api_Act) : Option (Bool) :=
 if a_1 = a_2 then ((selvageref08_Same_3.m ([] : List api_Act) a_3).bind fun r_5 => some r_5) else (some false)
noncomputable def selvageref08_SameTrace_2.o (a_1 : Int) (a_2 : Int) (a_3 : List api_Act) (r : Bool) : Out := .ret (.v (.bool r)) [.arr true 64 4 a_3.length (a_3.map api_Act.c)] []
theorem selvageref08_SameTrace_2.ev {a_1 : Int} {a_2 : Int} {a_3 : List api_Act} {r : Bool} (H : selvageref08_SameTrace_2.m a_1 a_2 a_3 = some r) : Ev Try.prog 18 [.agg [sL 0 a_3, vi a_1], .agg [.v (.slice none 0 0), vi a_2]] [.arr true 64 4 a_3.length (a_3.map api_Act.c)] [] (selvageref08_SameTrace_2.o a_1 a_2 a_3 r) := by
 unfold selvageref08_SameTrace_2.m at H
 rcases ic H with ⟨h_4, H⟩ | ⟨h_4, H⟩
 ·obtain ⟨r_5, e_6, H⟩ := bdE H
  obtain rfl := sj H
  exact selvageref08_SameTrace_2.F.run tb mixed [br h_4, ca [0] (Ev.nz (c := false) (k := 4) 1 (selvageref08_Same_3.ev e_6) (by kernel_rfl)), pT] rfl (by kernel_rfl)
 ·obtain rfl := sj H
  exact selvageref08_SameTrace_2.F.run tb mixed [br h_4, pF] rfl (by kernel_rfl)
noncomputable def selvagelaw17_begins.F : FI Try.prog 17 := fi Try.f17 78 Try.call17 Try.func17
def selvagelaw17_begins.l1 (a_1 : List api_Act) (a_2 : List api_Act) (s_6 : Int) : Option (Int ⊕ (Unit ⊕ Unit)) :=
 if s_6 < (a_1.length : Int) then ((letC (wr .i64 ((a_1.length : Int) - 1)) fun v_16 => if s_6 = v_16 then (if 0 ≤ s_6 ∧ s_6 < (a_1.length : Int) then (letC (gi a_1 s_6) fun v_19 => if v_19.Kind = 3 then (if 0 ≤ s_6 ∧ s_6 < (a_2.length : Int) then (letC (gi a_2 s_6) fun v_22 => if v_22.Kind = 5 then (letC (gi a_1 s_6) fun v_24 => letC (gi a_2 s_6) fun v_25 => if v_24.Loc = v_25.Loc then (letC (gi a_1 s_6) fun v_27 => letC (gi a_2 s_6) fun v_28 => some ((decide (v_27.Old = v_28.Old)) : Bool)) else (some (false : Bool))) else (some (false : Bool))) else none) else (some (false : Bool))) else none) else (some (false : Bool)) : Option Bool).bind fun o_13 => if 0 ≤ s_6 ∧ s_6 < (a_1.length : Int) then (letC (gi a_1 s_6) fun v_30 => if 0 ≤ s_6 ∧ s_6 < (a_2.length : Int) then (letC (gi a_2 s_6) fun v_32 => if ((v_30.Kind == v_32.Kind) && ((v_30.Loc == v_32.Loc) && ((v_30.Old == v_32.Old) && ((v_30.New == v_32.New) && true)))) = true then (some (Sum.inl (wr .i64 (s_6 + 1)))) else (if o_13 = true then (some (Sum.inl (wr .i64 (s_6 + 1)))) else (some (Sum.inr (Sum.inl ()))))) else none) else none) else (some (Sum.inr (Sum.inr (()))))
def selvagelaw17_begins.m (a_1 : List api_Act) (a_2 : List api_Act) : Option (Bool) :=
 if (a_1.length : Int) > (a_2.length : Int) then (some false) else ((B.loop (selvagelaw17_begins.l1 a_1 a_2) (0 : Int)).bind fun o_7 => match o_7 with | Sum.inl s_10 => (some false) | Sum.inr (s_11) => (some true))
noncomputable def selvagelaw17_begins.o (a_1 : List api_Act) (a_2 : List api_Act) (r : Bool) : Out := .ret (.v (.bool r)) [] []
theorem selvagelaw17_begins.ev {a_1 : List api_Act} {a_2 : List api_Act} {r : Bool} (H : selvagelaw17_begins.m a_1 a_2 = some r) : Ev Try.prog 17 [.ro false 4 a_1.length (a_1.map api_Act.c), .ro false 4 a_2.length (a_2.map api_Act.c)] [] [] (selvagelaw17_begins.o a_1 a_2 r) := by
 unfold selvagelaw17_begins.m at H
 rcases ic H with ⟨h_3, H⟩ | ⟨h_3, H⟩
 ·obtain rfl := sj H
  exact selvagelaw17_begins.F.run tb mixed [br h_3] rfl (by kernel_rfl)
 ·obtain ⟨o_7, e_8, H⟩ := bdE H
  have j_9 := Runs.loop (P := Try.prog) (N := selvagelaw17_begins.F.N) (m0 := 0) (c := sub_ selvagelaw17_begins.F.c [1, 1, 0, 1, 0, 0]) (f := (selvagelaw17_begins.l1 a_1 a_2)) (St := fun s_6 => ⟨[(0, .ro false 4 a_1.length (a_1.map api_Act.c)), (1, .ro false 4 a_2.length (a_2.map api_Act.c)), (5, vi s_6)], [], []⟩) (xo := (fun o => match o with | Sum.inl _ => .ret | Sum.inr (_) => (.exit 0) : (Unit ⊕ Unit) → Ex)) (So := (fun o => match o with | Sum.inl s_10 => ⟨[(4, .v (.bool false))], [], []⟩ | Sum.inr (s_11) => ⟨[], [], []⟩ : (Unit ⊕ Unit) → ASt)) (by intro o; rcases o with _ | _ <;> simp) (fun s_6 z H => by
   unfold selvagelaw17_begins.l1 at H
   rcases ic H with ⟨h_12, H⟩ | ⟨h_12, H⟩
   ·obtain ⟨o_13, e_14, H⟩ := bdE H
    have j_15 : Rq selvagelaw17_begins.F 0 [1, 1, 0, 1, 0, 0, 1, 0, 0, 0] ⟨[(0, .ro false 4 a_1.length (a_1.map api_Act.c)), (1, .ro false 4 a_2.length (a_2.map api_Act.c)), (5, vi s_6)], [], []⟩ ((fun _ => .normal : Bool → Ex) o_13) ((fun o_13 => ⟨[(0, .ro false 4 a_1.length (a_1.map api_Act.c)), (1, .ro false 4 a_2.length (a_2.map api_Act.c)), (5, vi s_6), (6, .v (.bool o_13))], [], []⟩ : Bool → ASt) o_13) := by
     clear H
     have H := e_14
     clear e_14
     let v_16 : Int := wr .i64 ((a_1.length : Int) - 1)
     replace H := ltD H
     rcases ic H with ⟨h_17, H⟩ | ⟨h_17, H⟩
     ·obtain ⟨g_18, H⟩ := gdE H
      let v_19 : api_Act := gi a_1 s_6
      replace H := ltD H
      rcases ic H with ⟨h_20, H⟩ | ⟨h_20, H⟩
      ·obtain ⟨g_21, H⟩ := gdE H
       let v_22 : api_Act := gi a_2 s_6
       replace H := ltD H
       rcases ic H with ⟨h_23, H⟩ | ⟨h_23, H⟩
       ·let v_24 : api_Act := gi a_1 s_6
        replace H := ltD H
        let v_25 : api_Act := gi a_2 s_6
        replace H := ltD H
        rcases ic H with ⟨h_26, H⟩ | ⟨h_26, H⟩
        ·let v_27 : api_Act := gi a_1 s_6
         replace H := ltD H
         let v_28 : api_Act := gi a_2 s_6
         replace H := ltD H
         obtain rfl := sj H
         exact fn [br h_17, ix api_Act.c g_18, pT, br h_20, ix api_Act.c g_21, pT, br h_23, ix api_Act.c g_18, ix api_Act.c g_21, pT, br h_26, ix api_Act.c g_18, ix api_Act.c g_21, pT]
        ·obtain rfl := sj H
         exact fn [br h_17, ix api_Act.c g_18, pT, br h_20, ix api_Act.c g_21, pT, br h_23, ix api_Act.c g_18, ix api_Act.c g_21, pT, br h_26, pF]
       ·obtain rfl := sj H
        exact fn [br h_17, ix api_Act.c g_18, pT, br h_20, ix api_Act.c g_21, pT, br h_23, pF, au, pF]
      ·obtain rfl := sj H
       exact fn [br h_17, ix api_Act.c g_18, pT, br h_20, pF, au, pF, au, pF]
     ·obtain rfl := sj H
      exact fn [br h_17, pF, au, pF, au, pF, au, pF]
    obtain ⟨g_29, H⟩ := gdE H
    let v_30 : api_Act := gi a_1 s_6
    replace H := ltD H
    obtain ⟨g_31, H⟩ := gdE H
    let v_32 : api_Act := gi a_2 s_6
    replace H := ltD H
    rcases ie H with ⟨h_33, H⟩ | ⟨h_33, H⟩
    ·obtain rfl := sj H
     exact fn [br h_12, sg_ 6 j_15, ix api_Act.c g_29, ix api_Act.c g_31, eqs (P := Try.prog) (xt := 64) ⟨by kernel_rfl, by kernel_rfl⟩, bn h_33, pF, au]
    ·rcases ie H with ⟨h_34, H⟩ | ⟨h_34, H⟩
     ·obtain rfl := sj H
      exact fn [br h_12, sg_ 6 j_15, ix api_Act.c g_29, ix api_Act.c g_31, eqs (P := Try.prog) (xt := 64) ⟨by kernel_rfl, by kernel_rfl⟩, bn h_33, pT, bn h_34]
     ·obtain rfl := sj H
      exact fn [br h_12, sg_ 6 j_15, ix api_Act.c g_29, ix api_Act.c g_31, eqs (P := Try.prog) (xt := 64) ⟨by kernel_rfl, by kernel_rfl⟩, bn h_33, pT, bn h_34]
   ·obtain rfl := sj H
    exact fn [br h_12] (by kernel_rfl)) e_8
  rcases o_7 with s_10 | s_11
  ·obtain rfl := sj H
   exact selvagelaw17_begins.F.run tb mixed [br h_3, su j_9] rfl (by kernel_rfl)
  ·obtain rfl := sj H
   exact selvagelaw17_begins.F.run tb mixed [br h_3, su j_9] rfl (by kernel_rfl)
noncomputable def selvagelaw17_EmitRuns.F : FI Try.prog 6 := fi Try.f6 70 Try.call6 Try.func6
def selvagelaw17_EmitRuns.m (a_1 : List api_Ins) (a_2 : List api_Loc) (a_3 : Int) (a_4 : Int) (a_5 : List Int) : Option (Bool) :=
 (selvagelaw17_awake.m).bind fun r_6 => if r_6 = true then ((letC (selvagelaw17_small.m a_1 a_2 a_5) fun r_12 => if r_12 = true then (if a_4 < 0 then (some (true : Bool)) else (some ((decide (a_4 ≥ 3)) : Bool))) else (some (true : Bool)) : Option Bool).bind fun o_9 => if o_9 = true then (some true) else ((emit_Emit_2.m a_1 a_2 a_3).bind fun r_17 => match r_17 with | Sum.inl r_19 => ((thread_Do_2.m r_19 (a_2.length : Int) a_4 a_5).bind fun r_22 => match r_22 with | Sum.inl r_24 => ((thread_Acts.m ([] : List api_Event) a_2).bind fun r_26 => (tree_Run.m a_1 a_2 a_5).bind fun r_28 => match r_28 with | Sum.inl r_30 => ((selvageref08_SameTrace.m 0 r_30.2 r_26 r_30.1).bind fun r_32 => some r_32) | Sum.inr (r_31) => ((selvageref08_SameTrace_2.m 0 0 r_26).bind fun r_34 => some r_34)) | Sum.inr (r_25) => ((thread_Acts.m r_25.1 a_2).bind fun r_36 => (tree_Run.m a_1 a_2 a_5).bind fun r_38 => match r_38 with | Sum.inl r_40 => (if r_25.2 = 5 then ((selvagelaw17_begins.m r_36 r_40.1).bind fun r_43 => some r_43) else ((selvageref08_SameTrace.m r_25.2 r_40.2 r_36 r_40.1).bind fun r_45 => some r_45)) | Sum.inr (r_41) => (if r_25.2 = 5 then ((selvagelaw17_begins.m r_36 ([] : List api_Act)).bind fun r_48 => some r_48) else ((selvageref08_SameTrace_2.m r_25.2 0 r_36).bind fun r_50 => some r_50)))) | Sum.inr (Sum.inl r_20) => (if r_20 = 0 then ((thread_Do_2.m ([] : List api_Inst) (a_2.length : Int) a_4 a_5).bind fun r_53 => match r_53 with | Sum.inl r_55 => ((thread_Acts.m ([] : List api_Event) a_2).bind fun r_57 => (tree_Run.m a_1 a_2 a_5).bind fun r_59 => match r_59 with | Sum.inl r_61 => ((selvageref08_SameTrace.m 0 r_61.2 r_57 r_61.1).bind fun r_63 => some r_63) | Sum.inr (r_62) => ((selvageref08_SameTrace_2.m 0 0 r_57).bind fun r_65 => some r_65)) | Sum.inr (r_56) => ((thread_Acts.m r_56.1 a_2).bind fun r_67 => (tree_Run.m a_1 a_2 a_5).bind fun r_69 => match r_69 with | Sum.inl r_71 => (if r_56.2 = 5 then ((selvagelaw17_begins.m r_67 r_71.1).bind fun r_74 => some r_74) else ((selvageref08_SameTrace.m r_56.2 r_71.2 r_67 r_71.1).bind fun r_76 => some r_76)) | Sum.inr (r_72) => (if r_56.2 = 5 then ((selvagelaw17_begins.m r_67 ([] : List api_Act)).bind fun r_79 => some r_79) else ((selvageref08_SameTrace_2.m r_56.2 0 r_67).bind fun r_81 => some r_81)))) else (some (decide ((([] : List api_Inst).length : Int) = 0)))) | Sum.inr (Sum.inr (r_21)) => ((thread_Do_2.m r_21.1 (a_2.length : Int) a_4 a_5).bind fun r_83 => match r_83 with | Sum.inl r_85 => ((thread_Acts.m ([] : List api_Event) a_2).bind fun r_87 => (tree_Run.m a_1 a_2 a_5).bind fun r_89 => match r_89 with | Sum.inl r_91 => ((selvageref08_SameTrace.m 0 r_91.2 r_87 r_91.1).bind fun r_93 => some r_93) | Sum.inr (r_92) => ((selvageref08_SameTrace_2.m 0 0 r_87).bind fun r_95 => some r_95)) | Sum.inr (r_86) => ((thread_Acts.m r_86.1 a_2).bind fun r_97 => (tree_Run.m a_1 a_2 a_5).bind fun r_99 => match r_99 with | Sum.inl r_101 => (if r_86.2 = 5 then ((selvagelaw17_begins.m r_97 r_101.1).bind fun r_104 => some r_104) else ((selvageref08_SameTrace.m r_86.2 r_101.2 r_97 r_101.1).bind fun r_106 => some r_106)) | Sum.inr (r_102) => (if r_86.2 = 5 then ((selvagelaw17_begins.m r_97 ([] : List api_Act)).bind fun r_109 => some r_109) else ((selvageref08_SameTrace_2.m r_86.2 0 r_97).bind fun r_111 => some r_111)))))) else (some false)
noncomputable def selvagelaw17_EmitRuns.o (a_1 : List api_Ins) (a_2 : List api_Loc) (a_3 : Int) (a_4 : Int) (a_5 : List Int) (r : Bool) : Out := .ret (.v (.bool r)) [] []
theorem selvagelaw17_EmitRuns.ev {a_1 : List api_Ins} {a_2 : List api_Loc} {a_3 : Int} {a_4 : Int} {a_5 : List Int} {r : Bool} (H : selvagelaw17_EmitRuns.m a_1 a_2 a_3 a_4 a_5 = some r) : Ev Try.prog 6 [.ro false 8 a_1.length (a_1.map api_Ins.c), .ro false 2 a_2.length (a_2.map api_Loc.c), vi a_3, vi a_4, .ro false 1 a_5.length (a_5.map (cI .i64))] [] [] (selvagelaw17_EmitRuns.o a_1 a_2 a_3 a_4 a_5 r) := by
 unfold selvagelaw17_EmitRuns.m at H
 obtain ⟨r_6, e_7, H⟩ := bdE H
 rcases ie H with ⟨h_8, H⟩ | ⟨h_8, H⟩
 ·obtain ⟨o_9, e_10, H⟩ := bdE H
  have j_11 : Rq selvagelaw17_EmitRuns.F 0 [1, 1, 0, 0] ⟨[(0, .ro false 8 a_1.length (a_1.map api_Ins.c)), (1, .ro false 2 a_2.length (a_2.map api_Loc.c)), (2, vi a_3), (3, vi a_4), (4, .ro false 1 a_5.length (a_5.map (cI .i64)))], [], []⟩ ((fun _ => .normal : Bool → Ex) o_9) ((fun o_9 => ⟨[(0, .ro false 8 a_1.length (a_1.map api_Ins.c)), (1, .ro false 2 a_2.length (a_2.map api_Loc.c)), (2, vi a_3), (3, vi a_4), (4, .ro false 1 a_5.length (a_5.map (cI .i64))), (30, .v (.bool o_9))], [], []⟩ : Bool → ASt) o_9) := by
   clear H
   have H := e_10
   clear e_10
   obtain ⟨r_12, e_13, H⟩ := ltE H
   rcases ie H with ⟨h_14, H⟩ | ⟨h_14, H⟩
   ·rcases ic H with ⟨h_15, H⟩ | ⟨h_15, H⟩
    ·obtain rfl := sj H
     exact fn [ca [] (selvagelaw17_small.ev e_13), bn h_14, pF, br h_15, pT]
    ·obtain rfl := sj H
     exact fn [ca [] (selvagelaw17_small.ev e_13), bn h_14, pF, br h_15, pF]
   ·obtain rfl := sj H
    exact fn [ca [] (selvagelaw17_small.ev e_13), bn h_14, pT, au, pT]
  rcases ie H with ⟨h_16, H⟩ | ⟨h_16, H⟩
  ·obtain rfl := sj H
   exact selvagelaw17_EmitRuns.F.run tb mixed [ca [] (selvagelaw17_awake.ev e_7), bn h_8, sg_ 3 j_11, br h_16] rfl (by kernel_rfl)
  ·obtain ⟨r_17, e_18, H⟩ := bdE H
   rcases r_17 with r_19 | r_20 | r_21
   ·obtain ⟨r_22, e_23, H⟩ := bdE H
    rcases r_22 with r_24 | r_25
    ·obtain ⟨r_26, e_27, H⟩ := bdE H
     obtain ⟨r_28, e_29, H⟩ := bdE H
     rcases r_28 with r_30 | r_31
     ·obtain ⟨r_32, e_33, H⟩ := bdE H
      obtain rfl := sj H
      exact selvagelaw17_EmitRuns.F.run tb mixed [ca [] (selvagelaw17_awake.ev e_7), bn h_8, sg_ 3 j_11, br h_16, ca [] (emit_Emit_2.ev e_18), au, here 8, frz 1 [11] [], ca [] (thread_Do_2.ev e_23), ca [] (Ev.nz (c := false) (k := 8) 0 (thread_Acts.ev e_27) (by kernel_rfl)), ca [] (tree_Run.ev e_29), au, ca [5, 8] (selvageref08_SameTrace.ev e_33)] rfl (by kernel_rfl)
     ·obtain ⟨r_34, e_35, H⟩ := bdE H
      obtain rfl := sj H
      exact selvagelaw17_EmitRuns.F.run tb mixed [ca [] (selvagelaw17_awake.ev e_7), bn h_8, sg_ 3 j_11, br h_16, ca [] (emit_Emit_2.ev e_18), au, here 8, frz 1 [11] [], ca [] (thread_Do_2.ev e_23), ca [] (Ev.nz (c := false) (k := 8) 0 (thread_Acts.ev e_27) (by kernel_rfl)), ca [] (tree_Run.ev e_29), au, ca [5] (selvageref08_SameTrace_2.ev e_35)] rfl (by kernel_rfl)
    ·obtain ⟨r_36, e_37, H⟩ := bdE H
     obtain ⟨r_38, e_39, H⟩ := bdE H
     rcases r_38 with r_40 | r_41
     ·rcases ic H with ⟨h_42, H⟩ | ⟨h_42, H⟩
      ·obtain ⟨r_43, e_44, H⟩ := bdE H
       obtain rfl := sj H
       exact selvagelaw17_EmitRuns.F.run tb mixed [ca [] (selvagelaw17_awake.ev e_7), bn h_8, sg_ 3 j_11, br h_16, ca [] (emit_Emit_2.ev e_18), au, here 8, frz 1 [11] [], ca [] (thread_Do_2.ev e_23), here 9, frz 5 [] [(6, 0)], ca [] (thread_Acts.ev e_37), ca [] (tree_Run.ev e_39), br h_42, here 11, frz 9 [14] [], frz 12 [] [(13, 0)], ca [] (selvagelaw17_begins.ev e_44)] rfl (by kernel_rfl)
      ·obtain ⟨r_45, e_46, H⟩ := bdE H
       obtain rfl := sj H
       exact selvagelaw17_EmitRuns.F.run tb mixed [ca [] (selvagelaw17_awake.ev e_7), bn h_8, sg_ 3 j_11, br h_16, ca [] (emit_Emit_2.ev e_18), au, here 8, frz 1 [11] [], ca [] (thread_Do_2.ev e_23), here 9, frz 5 [] [(6, 0)], ca [] (thread_Acts.ev e_37), ca [] (tree_Run.ev e_39), br h_42, ca [9, 12] (selvageref08_SameTrace.ev e_46)] rfl (by kernel_rfl)
     ·rcases ic H with ⟨h_47, H⟩ | ⟨h_47, H⟩
      ·obtain ⟨r_48, e_49, H⟩ := bdE H
       obtain rfl := sj H
       exact selvagelaw17_EmitRuns.F.run tb mixed [ca [] (selvagelaw17_awake.ev e_7), bn h_8, sg_ 3 j_11, br h_16, ca [] (emit_Emit_2.ev e_18), au, here 8, frz 1 [11] [], ca [] (thread_Do_2.ev e_23), here 9, frz 5 [] [(6, 0)], ca [] (thread_Acts.ev e_37), ca [] (tree_Run.ev e_39), br h_47, here 11, frz 9 [14] [], ca [] (Ev.nz (c := false) (k := 4) 1 (selvagelaw17_begins.ev e_49) (by kernel_rfl))] rfl (by kernel_rfl)
      ·obtain ⟨r_50, e_51, H⟩ := bdE H
       obtain rfl := sj H
       exact selvagelaw17_EmitRuns.F.run tb mixed [ca [] (selvagelaw17_awake.ev e_7), bn h_8, sg_ 3 j_11, br h_16, ca [] (emit_Emit_2.ev e_18), au, here 8, frz 1 [11] [], ca [] (thread_Do_2.ev e_23), here 9, frz 5 [] [(6, 0)], ca [] (thread_Acts.ev e_37), ca [] (tree_Run.ev e_39), br h_47, ca [9] (selvageref08_SameTrace_2.ev e_51)] rfl (by kernel_rfl)
   ·rcases ic H with ⟨h_52, H⟩ | ⟨h_52, H⟩
    ·obtain ⟨r_53, e_54, H⟩ := bdE H
     rcases r_53 with r_55 | r_56
     ·obtain ⟨r_57, e_58, H⟩ := bdE H
      obtain ⟨r_59, e_60, H⟩ := bdE H
      rcases r_59 with r_61 | r_62
      ·obtain ⟨r_63, e_64, H⟩ := bdE H
       obtain rfl := sj H
       exact selvagelaw17_EmitRuns.F.run tb mixed [ca [] (selvagelaw17_awake.ev e_7), bn h_8, sg_ 3 j_11, br h_16, ca [] (emit_Emit_2.ev e_18), on_ 11 (nzm 5), bn h_52, ca [] (thread_Do_2.ev e_54), ca [] (Ev.nz (c := false) (k := 8) 0 (thread_Acts.ev e_58) (by kernel_rfl)), ca [] (tree_Run.ev e_60), au, ca [3, 6] (selvageref08_SameTrace.ev e_64)] rfl (by kernel_rfl)
      ·obtain ⟨r_65, e_66, H⟩ := bdE H
       obtain rfl := sj H
       exact selvagelaw17_EmitRuns.F.run tb mixed [ca [] (selvagelaw17_awake.ev e_7), bn h_8, sg_ 3 j_11, br h_16, ca [] (emit_Emit_2.ev e_18), on_ 11 (nzm 5), bn h_52, ca [] (thread_Do_2.ev e_54), ca [] (Ev.nz (c := false) (k := 8) 0 (thread_Acts.ev e_58) (by kernel_rfl)), ca [] (tree_Run.ev e_60), au, ca [3] (selvageref08_SameTrace_2.ev e_66)] rfl (by kernel_rfl)
     ·obtain ⟨r_67, e_68, H⟩ := bdE H
      obtain ⟨r_69, e_70, H⟩ := bdE H
      rcases r_69 with r_71 | r_72
      ·rcases ic H with ⟨h_73, H⟩ | ⟨h_73, H⟩
       ·obtain ⟨r_74, e_75, H⟩ := bdE H
        obtain rfl := sj H
        exact selvagelaw17_EmitRuns.F.run tb mixed [ca [] (selvagelaw17_awake.ev e_7), bn h_8, sg_ 3 j_11, br h_16, ca [] (emit_Emit_2.ev e_18), on_ 11 (nzm 5), bn h_52, ca [] (thread_Do_2.ev e_54), here 9, frz 3 [] [(4, 0)], ca [] (thread_Acts.ev e_68), ca [] (tree_Run.ev e_70), br h_73, here 11, frz 7 [14] [], frz 10 [] [(11, 0)], ca [] (selvagelaw17_begins.ev e_75)] rfl (by kernel_rfl)
       ·obtain ⟨r_76, e_77, H⟩ := bdE H
        obtain rfl := sj H
        exact selvagelaw17_EmitRuns.F.run tb mixed [ca [] (selvagelaw17_awake.ev e_7), bn h_8, sg_ 3 j_11, br h_16, ca [] (emit_Emit_2.ev e_18), on_ 11 (nzm 5), bn h_52, ca [] (thread_Do_2.ev e_54), here 9, frz 3 [] [(4, 0)], ca [] (thread_Acts.ev e_68), ca [] (tree_Run.ev e_70), br h_73, ca [7, 10] (selvageref08_SameTrace.ev e_77)] rfl (by kernel_rfl)
      ·rcases ic H with ⟨h_78, H⟩ | ⟨h_78, H⟩
       ·obtain ⟨r_79, e_80, H⟩ := bdE H
        obtain rfl := sj H
        exact selvagelaw17_EmitRuns.F.run tb mixed [ca [] (selvagelaw17_awake.ev e_7), bn h_8, sg_ 3 j_11, br h_16, ca [] (emit_Emit_2.ev e_18), on_ 11 (nzm 5), bn h_52, ca [] (thread_Do_2.ev e_54), here 9, frz 3 [] [(4, 0)], ca [] (thread_Acts.ev e_68), ca [] (tree_Run.ev e_70), br h_78, here 11, frz 7 [14] [], ca [] (Ev.nz (c := false) (k := 4) 1 (selvagelaw17_begins.ev e_80) (by kernel_rfl))] rfl (by kernel_rfl)
       ·obtain ⟨r_81, e_82, H⟩ := bdE H
        obtain rfl := sj H
        exact selvagelaw17_EmitRuns.F.run tb mixed [ca [] (selvagelaw17_awake.ev e_7), bn h_8, sg_ 3 j_11, br h_16, ca [] (emit_Emit_2.ev e_18), on_ 11 (nzm 5), bn h_52, ca [] (thread_Do_2.ev e_54), here 9, frz 3 [] [(4, 0)], ca [] (thread_Acts.ev e_68), ca [] (tree_Run.ev e_70), br h_78, ca [7] (selvageref08_SameTrace_2.ev e_82)] rfl (by kernel_rfl)
    ·obtain rfl := sj H
     exact selvagelaw17_EmitRuns.F.run tb mixed [ca [] (selvagelaw17_awake.ev e_7), bn h_8, sg_ 3 j_11, br h_16, ca [] (emit_Emit_2.ev e_18), on_ 11 (nzm 5), bn h_52] rfl (by kernel_rfl)
   ·obtain ⟨r_83, e_84, H⟩ := bdE H
    rcases r_83 with r_85 | r_86
    ·obtain ⟨r_87, e_88, H⟩ := bdE H
     obtain ⟨r_89, e_90, H⟩ := bdE H
     rcases r_89 with r_91 | r_92
     ·obtain ⟨r_93, e_94, H⟩ := bdE H
      obtain rfl := sj H
      exact selvagelaw17_EmitRuns.F.run tb mixed [ca [] (selvagelaw17_awake.ev e_7), bn h_8, sg_ 3 j_11, br h_16, ca [] (emit_Emit_2.ev e_18), au, here 8, frz 2 [11] [], ron 11 none api_Inst.c r_21.1, ca [] (thread_Do_2.ev e_84), ca [] (Ev.nz (c := false) (k := 8) 0 (thread_Acts.ev e_88) (by kernel_rfl)), ca [] (tree_Run.ev e_90), au, ca [6, 9] (selvageref08_SameTrace.ev e_94)] rfl (by kernel_rfl)
     ·obtain ⟨r_95, e_96, H⟩ := bdE H
      obtain rfl := sj H
      exact selvagelaw17_EmitRuns.F.run tb mixed [ca [] (selvagelaw17_awake.ev e_7), bn h_8, sg_ 3 j_11, br h_16, ca [] (emit_Emit_2.ev e_18), au, here 8, frz 2 [11] [], ron 11 none api_Inst.c r_21.1, ca [] (thread_Do_2.ev e_84), ca [] (Ev.nz (c := false) (k := 8) 0 (thread_Acts.ev e_88) (by kernel_rfl)), ca [] (tree_Run.ev e_90), au, ca [6] (selvageref08_SameTrace_2.ev e_96)] rfl (by kernel_rfl)
    ·obtain ⟨r_97, e_98, H⟩ := bdE H
     obtain ⟨r_99, e_100, H⟩ := bdE H
     rcases r_99 with r_101 | r_102
     ·rcases ic H with ⟨h_103, H⟩ | ⟨h_103, H⟩
      ·obtain ⟨r_104, e_105, H⟩ := bdE H
       obtain rfl := sj H
       exact selvagelaw17_EmitRuns.F.run tb mixed [ca [] (selvagelaw17_awake.ev e_7), bn h_8, sg_ 3 j_11, br h_16, ca [] (emit_Emit_2.ev e_18), au, here 8, frz 2 [11] [], ron 11 none api_Inst.c r_21.1, ca [] (thread_Do_2.ev e_84), here 9, frz 6 [] [(7, 0)], ca [] (thread_Acts.ev e_98), ca [] (tree_Run.ev e_100), br h_103, here 11, frz 10 [14] [], frz 13 [] [(14, 0)], ca [] (selvagelaw17_begins.ev e_105)] rfl (by kernel_rfl)
      ·obtain ⟨r_106, e_107, H⟩ := bdE H
       obtain rfl := sj H
       exact selvagelaw17_EmitRuns.F.run tb mixed [ca [] (selvagelaw17_awake.ev e_7), bn h_8, sg_ 3 j_11, br h_16, ca [] (emit_Emit_2.ev e_18), au, here 8, frz 2 [11] [], ron 11 none api_Inst.c r_21.1, ca [] (thread_Do_2.ev e_84), here 9, frz 6 [] [(7, 0)], ca [] (thread_Acts.ev e_98), ca [] (tree_Run.ev e_100), br h_103, ca [10, 13] (selvageref08_SameTrace.ev e_107)] rfl (by kernel_rfl)
     ·rcases ic H with ⟨h_108, H⟩ | ⟨h_108, H⟩
      ·obtain ⟨r_109, e_110, H⟩ := bdE H
       obtain rfl := sj H
       exact selvagelaw17_EmitRuns.F.run tb mixed [ca [] (selvagelaw17_awake.ev e_7), bn h_8, sg_ 3 j_11, br h_16, ca [] (emit_Emit_2.ev e_18), au, here 8, frz 2 [11] [], ron 11 none api_Inst.c r_21.1, ca [] (thread_Do_2.ev e_84), here 9, frz 6 [] [(7, 0)], ca [] (thread_Acts.ev e_98), ca [] (tree_Run.ev e_100), br h_108, here 11, frz 10 [14] [], ca [] (Ev.nz (c := false) (k := 4) 1 (selvagelaw17_begins.ev e_110) (by kernel_rfl))] rfl (by kernel_rfl)
      ·obtain ⟨r_111, e_112, H⟩ := bdE H
       obtain rfl := sj H
       exact selvagelaw17_EmitRuns.F.run tb mixed [ca [] (selvagelaw17_awake.ev e_7), bn h_8, sg_ 3 j_11, br h_16, ca [] (emit_Emit_2.ev e_18), au, here 8, frz 2 [11] [], ron 11 none api_Inst.c r_21.1, ca [] (thread_Do_2.ev e_84), here 9, frz 6 [] [(7, 0)], ca [] (thread_Acts.ev e_98), ca [] (tree_Run.ev e_100), br h_108, ca [10] (selvageref08_SameTrace_2.ev e_112)] rfl (by kernel_rfl)
 ·obtain rfl := sj H
  exact selvagelaw17_EmitRuns.F.run tb mixed [ca [] (selvagelaw17_awake.ev e_7), bn h_8] rfl (by kernel_rfl)
end Go.Proofs.Ytbhekpcimmaijaa

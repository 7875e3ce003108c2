/- QB: several texts in one. -/
import Derived.Test.YtbdbmklkgjbehaaQA
set_option linter.unusedVariables false
set_option linter.unusedSimpArgs false
set_option linter.unusedSectionVars false
set_option maxRecDepth 100000
namespace Go.Proofs.Ytbdbmklkgjbehaa
open Go Go.RowKit Go.Proofs Go.Proofs.Ytbdbmklkgjbehaa.X
open Go.Proofs.Ytbdbmklkgjbehaa.B (wr sb feq fls qf flt i2f aget aset isnan isnan_flt)
noncomputable def selvageref10_plain.F : FI Try.prog 21 := fi Try.f21 155 Try.call21 Try.func21
def selvageref10_plain.l1 (a_4 : List api_Loc) (r_43 : Bool) (o_65 : Int) (s_72 : Int) : Option (Int ⊕ (Unit ⊕ Unit)) :=
 if s_72 ≤ o_65 then (if s_72 ≥ (a_4.length : Int) then (some (Sum.inr (Sum.inl ()))) else (if 0 ≤ s_72 ∧ s_72 < (a_4.length : Int) then (letC (gi a_4 s_72) fun v_81 => if (v_81.Atomic == r_43) = true then (some (Sum.inl (wr .i64 (s_72 + 1)))) else (some (Sum.inr (Sum.inl ())))) else none)) else (some (Sum.inr (Sum.inr (()))))
def selvageref10_plain.m (a_1 : api_Ins) (a_2 : Int) (a_3 : Int) (a_4 : List api_Loc) : Option (Bool) :=
 (letC (selvageref10_letters.m a_1.Op) fun r_8 => if (r_8.toList == (⟨#[]⟩ : ByteArray).toList) = true then (some (true : Bool)) else ((selvageref10_Has.m a_1.Op 100).bind fun r_11 => letC (selvageref10_field.m r_11 a_1.D) fun r_13 => if r_13 = true then ((selvageref10_Has.m a_1.Op 97).bind fun r_16 => letC (selvageref10_field.m r_16 a_1.A) fun r_18 => if r_18 = true then ((selvageref10_Has.m a_1.Op 98).bind fun r_21 => letC (selvageref10_field.m r_21 a_1.B) fun r_23 => if r_23 = true then (if a_1.K = 0 then (some (false : Bool)) else ((selvageref10_Has.m a_1.Op 107).bind fun r_27 => some ((!r_27) : Bool))) else (some (true : Bool))) else (some (true : Bool))) else (some (true : Bool))) : Option Bool).bind fun o_5 => if o_5 = true then (some false) else ((selvageref10_Has.m a_1.Op 116).bind fun r_30 => (if r_30 = true then (if a_1.To ≤ (wr .i64 (a_2 + 1)) then (some (Sum.inl () : Unit ⊕ Unit)) else (if a_1.To > (wr .i64 (a_3 - 1)) then (some (Sum.inl () : Unit ⊕ Unit)) else (some (Sum.inr (()) : Unit ⊕ Unit)))) else (if a_1.To = 0 then (some (Sum.inr (()) : Unit ⊕ Unit)) else (some (Sum.inl () : Unit ⊕ Unit))) : Option (Unit ⊕ Unit)).bind fun o_32 => match o_32 with | Sum.inl s_39 => (some false) | Sum.inr (s_40) => ((selvageref10_Has.m a_1.Op 108).bind fun r_41 => (selvageref10_Has.m a_1.Op 109).bind fun r_43 => (selvageref10_Has.m a_1.Op 114).bind fun r_45 => (if r_45 = true then (if a_1.Len < 1 then (some (true : Bool)) else (some ((decide (a_1.Len > 16)) : Bool))) else (if a_1.Len = 0 then (some (false : Bool)) else (some (true : Bool))) : Option Bool).bind fun o_47 => if o_47 = true then (some false) else ((if r_41 = true then (some (false : Bool)) else (if r_43 = true then (some (false : Bool)) else (some ((!r_45) : Bool))) : Option Bool).bind fun o_54 => if o_54 = true then (some (decide (a_1.Loc = 0))) else ((if a_1.Loc < 0 then (some (true : Bool)) else (some ((decide (a_1.Loc ≥ (a_4.length : Int))) : Bool)) : Option Bool).bind fun o_60 => if o_60 = true then (some false) else ((if r_45 = true then (letC (wr .i64 (a_1.Loc + a_1.Len)) fun v_69 => some ((wr .i64 (v_69 - 1)) : Int)) else (some (a_1.Loc : Int)) : Option Int).bind fun o_65 => (B.loop (selvageref10_plain.l1 a_4 r_43 o_65) (a_1.Loc : Int)).bind fun o_73 => match o_73 with | Sum.inl s_76 => (some false) | Sum.inr (s_77) => (some true))))))
noncomputable def selvageref10_plain.o (a_1 : api_Ins) (a_2 : Int) (a_3 : Int) (a_4 : List api_Loc) (r : Bool) : Out := .ret (.v (.bool r)) [] []
theorem selvageref10_plain.ev {a_1 : api_Ins} {a_2 : Int} {a_3 : Int} {a_4 : List api_Loc} {r : Bool} (H : selvageref10_plain.m a_1 a_2 a_3 a_4 = some r) : Ev Try.prog 21 [.agg (api_Ins.c a_1), vi a_2, vi a_3, .ro false 2 a_4.length (a_4.map api_Loc.c)] [] [] (selvageref10_plain.o a_1 a_2 a_3 a_4 r) := by
 unfold selvageref10_plain.m at H
 obtain ⟨o_5, e_6, H⟩ := bdE H
 have j_7 : Rq selvageref10_plain.F 0 [1, 0, 0] ⟨[(1, vi a_2), (2, vi a_3), (3, .ro false 2 a_4.length (a_4.map api_Loc.c)), (4, .ref 0 0)], [.box (api_Ins.c a_1)], []⟩ ((fun _ => .normal : Bool → Ex) o_5) ((fun o_5 => ⟨[(1, vi a_2), (2, vi a_3), (3, .ro false 2 a_4.length (a_4.map api_Loc.c)), (4, .ref 0 0), (55, .v (.bool o_5))], [.box (api_Ins.c a_1)], []⟩ : Bool → ASt) o_5) := by
  clear H
  have H := e_6
  clear e_6
  obtain ⟨r_8, e_9, H⟩ := ltE H
  rcases ie H with ⟨h_10, H⟩ | ⟨h_10, H⟩
  ·obtain rfl := sj H
   exact fn [ca [] (selvageref10_letters.ev e_9), br h_10, pT, au, pT, au, pT, au, pT]
  ·obtain ⟨r_11, e_12, H⟩ := bdE H
   obtain ⟨r_13, e_14, H⟩ := ltE H
   rcases ie H with ⟨h_15, H⟩ | ⟨h_15, H⟩
   ·obtain ⟨r_16, e_17, H⟩ := bdE H
    obtain ⟨r_18, e_19, H⟩ := ltE H
    rcases ie H with ⟨h_20, H⟩ | ⟨h_20, H⟩
    ·obtain ⟨r_21, e_22, H⟩ := bdE H
     obtain ⟨r_23, e_24, H⟩ := ltE H
     rcases ie H with ⟨h_25, H⟩ | ⟨h_25, H⟩
     ·rcases ic H with ⟨h_26, H⟩ | ⟨h_26, H⟩
      ·obtain rfl := sj H
       exact fn [ca [] (selvageref10_letters.ev e_9), br h_10, ca [] (selvageref10_Has.ev e_12), ca [] (selvageref10_field.ev e_14), pF, bn h_15, ca [] (selvageref10_Has.ev e_17), ca [] (selvageref10_field.ev e_19), pF, bn h_20, ca [] (selvageref10_Has.ev e_22), ca [] (selvageref10_field.ev e_24), pF, bn h_25, bn h_26, pF, pF]
      ·obtain ⟨r_27, e_28, H⟩ := bdE H
       obtain rfl := sj H
       exact fn [ca [] (selvageref10_letters.ev e_9), br h_10, ca [] (selvageref10_Has.ev e_12), ca [] (selvageref10_field.ev e_14), pF, bn h_15, ca [] (selvageref10_Has.ev e_17), ca [] (selvageref10_field.ev e_19), pF, bn h_20, ca [] (selvageref10_Has.ev e_22), ca [] (selvageref10_field.ev e_24), pF, bn h_25, bn h_26, ca [] (selvageref10_Has.ev e_28), pT, pF]
     ·obtain rfl := sj H
      exact fn [ca [] (selvageref10_letters.ev e_9), br h_10, ca [] (selvageref10_Has.ev e_12), ca [] (selvageref10_field.ev e_14), pF, bn h_15, ca [] (selvageref10_Has.ev e_17), ca [] (selvageref10_field.ev e_19), pF, bn h_20, ca [] (selvageref10_Has.ev e_22), ca [] (selvageref10_field.ev e_24), pF, bn h_25, pT]
    ·obtain rfl := sj H
     exact fn [ca [] (selvageref10_letters.ev e_9), br h_10, ca [] (selvageref10_Has.ev e_12), ca [] (selvageref10_field.ev e_14), pF, bn h_15, ca [] (selvageref10_Has.ev e_17), ca [] (selvageref10_field.ev e_19), pF, bn h_20, pT, au, pT]
   ·obtain rfl := sj H
    exact fn [ca [] (selvageref10_letters.ev e_9), br h_10, ca [] (selvageref10_Has.ev e_12), ca [] (selvageref10_field.ev e_14), pF, bn h_15, pT, au, pT, au, pT]
 rcases ie H with ⟨h_29, H⟩ | ⟨h_29, H⟩
 ·obtain rfl := sj H
  exact selvageref10_plain.F.run tb mixed [sg_ 1 j_7, br h_29] rfl (by kernel_rfl)
 ·obtain ⟨r_30, e_31, H⟩ := bdE H
  obtain ⟨o_32, e_33, H⟩ := bdE H
  have j_34 : Rq selvageref10_plain.F 0 [1, 1, 0, 1] ⟨[(1, vi a_2), (2, vi a_3), (3, .ro false 2 a_4.length (a_4.map api_Loc.c)), (4, .ref 0 0), (58, .v (.bool r_30))], [.box (api_Ins.c a_1)], []⟩ ((fun o => match o with | Sum.inl _ => .ret | Sum.inr (_) => .normal : (Unit ⊕ Unit) → Ex) o_32) ((fun o => match o with | Sum.inl s_39 => ⟨[(8, .v (.bool false))], [], []⟩ | Sum.inr (s_40) => ⟨[(3, .ro false 2 a_4.length (a_4.map api_Loc.c)), (4, .ref 0 0)], [.box (api_Ins.c a_1)], []⟩ : (Unit ⊕ Unit) → ASt) o_32) := by
   clear H
   have H := e_33
   clear e_33
   rcases ie H with ⟨h_35, H⟩ | ⟨h_35, H⟩
   ·rcases ic H with ⟨h_36, H⟩ | ⟨h_36, H⟩
    ·obtain rfl := sj H
     exact fn [br h_35, br h_36, pT, au]
    ·rcases ic H with ⟨h_37, H⟩ | ⟨h_37, H⟩
     ·obtain rfl := sj H
      exact fn [br h_35, br h_36, pF, br h_37]
     ·obtain rfl := sj H
      exact fn [br h_35, br h_36, pF, br h_37]
   ·rcases ic H with ⟨h_38, H⟩ | ⟨h_38, H⟩
    ·obtain rfl := sj H
     exact fn [br h_35, bn h_38]
    ·obtain rfl := sj H
     exact fn [br h_35, bn h_38]
  rcases o_32 with s_39 | s_40
  ·obtain rfl := sj H
   exact selvageref10_plain.F.run tb mixed [sg_ 1 j_7, br h_29, ca [] (selvageref10_Has.ev e_31), sc_ j_34] rfl (by kernel_rfl)
  ·obtain ⟨r_41, e_42, H⟩ := bdE H
   obtain ⟨r_43, e_44, H⟩ := bdE H
   obtain ⟨r_45, e_46, H⟩ := bdE H
   obtain ⟨o_47, e_48, H⟩ := bdE H
   have j_49 : Rq selvageref10_plain.F 0 [1, 1, 1, 1, 0, 0] ⟨[(3, .ro false 2 a_4.length (a_4.map api_Loc.c)), (4, .ref 0 0), (9, .v (.bool r_41)), (10, .v (.bool r_43)), (11, .v (.bool r_45))], [.box (api_Ins.c a_1)], []⟩ ((fun _ => .normal : Bool → Ex) o_47) ((fun o_47 => ⟨[(3, .ro false 2 a_4.length (a_4.map api_Loc.c)), (4, .ref 0 0), (9, .v (.bool r_41)), (10, .v (.bool r_43)), (11, .v (.bool r_45)), (102, .v (.bool o_47))], [.box (api_Ins.c a_1)], []⟩ : Bool → ASt) o_47) := by
    clear H
    have H := e_48
    clear e_48
    rcases ie H with ⟨h_50, H⟩ | ⟨h_50, H⟩
    ·rcases ic H with ⟨h_51, H⟩ | ⟨h_51, H⟩
     ·obtain rfl := sj H
      exact fn [bn h_50, pF, au, br h_50, br h_51, pT, pT, pF]
     ·obtain rfl := sj H
      exact fn [bn h_50, pF, au, br h_50, br h_51, pF, pT, pF]
    ·rcases ic H with ⟨h_52, H⟩ | ⟨h_52, H⟩
     ·obtain rfl := sj H
      exact fn [bn h_50, pT, bn h_52, br h_50, pF, pF]
     ·obtain rfl := sj H
      exact fn [bn h_50, pT, bn h_52, pT]
   rcases ie H with ⟨h_53, H⟩ | ⟨h_53, H⟩
   ·obtain rfl := sj H
    exact selvageref10_plain.F.run tb mixed [sg_ 1 j_7, br h_29, ca [] (selvageref10_Has.ev e_31), sc_ j_34, ca [] (selvageref10_Has.ev e_42), ca [] (selvageref10_Has.ev e_44), ca [] (selvageref10_Has.ev e_46), sg_ 9 j_49, br h_53] rfl (by kernel_rfl)
   ·obtain ⟨o_54, e_55, H⟩ := bdE H
    have j_56 : Rq selvageref10_plain.F 0 [1, 1, 1, 1, 1, 0, 0] ⟨[(3, .ro false 2 a_4.length (a_4.map api_Loc.c)), (4, .ref 0 0), (9, .v (.bool r_41)), (10, .v (.bool r_43)), (11, .v (.bool r_45))], [.box (api_Ins.c a_1)], []⟩ ((fun _ => .normal : Bool → Ex) o_54) ((fun o_54 => ⟨[(3, .ro false 2 a_4.length (a_4.map api_Loc.c)), (4, .ref 0 0), (10, .v (.bool r_43)), (11, .v (.bool r_45)), (112, .v (.bool o_54))], [.box (api_Ins.c a_1)], []⟩ : Bool → ASt) o_54) := by
     clear H
     have H := e_55
     clear e_55
     rcases ie H with ⟨h_57, H⟩ | ⟨h_57, H⟩
     ·obtain rfl := sj H
      exact fn [bn h_57, pF, au, pF]
     ·rcases ie H with ⟨h_58, H⟩ | ⟨h_58, H⟩
      ·obtain rfl := sj H
       exact fn [bn h_57, pT, bn h_58, pF]
      ·obtain rfl := sj H
       exact fn [bn h_57, pT, bn h_58, pT]
    rcases ie H with ⟨h_59, H⟩ | ⟨h_59, H⟩
    ·obtain rfl := sj H
     exact selvageref10_plain.F.run tb mixed [sg_ 1 j_7, br h_29, ca [] (selvageref10_Has.ev e_31), sc_ j_34, ca [] (selvageref10_Has.ev e_42), ca [] (selvageref10_Has.ev e_44), ca [] (selvageref10_Has.ev e_46), sg_ 9 j_49, br h_53, sg_ 11 j_56, br h_59] rfl (by kernel_rfl)
    ·obtain ⟨o_60, e_61, H⟩ := bdE H
     have j_62 : Rq selvageref10_plain.F 0 [1, 1, 1, 1, 1, 1, 0, 0] ⟨[(3, .ro false 2 a_4.length (a_4.map api_Loc.c)), (4, .ref 0 0), (10, .v (.bool r_43)), (11, .v (.bool r_45))], [.box (api_Ins.c a_1)], []⟩ ((fun _ => .normal : Bool → Ex) o_60) ((fun o_60 => ⟨[(3, .ro false 2 a_4.length (a_4.map api_Loc.c)), (4, .ref 0 0), (10, .v (.bool r_43)), (11, .v (.bool r_45)), (125, .v (.bool o_60))], [.box (api_Ins.c a_1)], []⟩ : Bool → ASt) o_60) := by
      clear H
      have H := e_61
      clear e_61
      rcases ic H with ⟨h_63, H⟩ | ⟨h_63, H⟩
      ·obtain rfl := sj H
       exact fn [br h_63, pT]
      ·obtain rfl := sj H
       exact fn [br h_63, pF]
     rcases ie H with ⟨h_64, H⟩ | ⟨h_64, H⟩
     ·obtain rfl := sj H
      exact selvageref10_plain.F.run tb mixed [sg_ 1 j_7, br h_29, ca [] (selvageref10_Has.ev e_31), sc_ j_34, ca [] (selvageref10_Has.ev e_42), ca [] (selvageref10_Has.ev e_44), ca [] (selvageref10_Has.ev e_46), sg_ 9 j_49, br h_53, sg_ 11 j_56, br h_59, sg_ 13 j_62, br h_64] rfl (by kernel_rfl)
     ·obtain ⟨o_65, e_66, H⟩ := bdE H
      have j_67 : Rq selvageref10_plain.F 0 [1, 1, 1, 1, 1, 1, 1, 1, 0, 1] ⟨[(3, .ro false 2 a_4.length (a_4.map api_Loc.c)), (4, .ref 0 0), (10, .v (.bool r_43)), (12, vi a_1.Loc), (128, .v (.bool r_45))], [.box (api_Ins.c a_1)], []⟩ ((fun _ => .normal : Int → Ex) o_65) ((fun o_65 => ⟨[(3, .ro false 2 a_4.length (a_4.map api_Loc.c)), (4, .ref 0 0), (10, .v (.bool r_43)), (12, vi o_65)], [.box (api_Ins.c a_1)], []⟩ : Int → ASt) o_65) := by
       clear H
       have H := e_66
       clear e_66
       rcases ie H with ⟨h_68, H⟩ | ⟨h_68, H⟩
       ·let v_69 : Int := wr .i64 (a_1.Loc + a_1.Len)
        replace H := ltD H
        obtain rfl := sj H
        exact fn [br h_68]
       ·obtain rfl := sj H
        exact fn [br h_68]
      obtain ⟨o_73, e_74, H⟩ := bdE H
      have j_75 := Runs.loop (P := Try.prog) (N := selvageref10_plain.F.N) (m0 := 0) (c := sub_ selvageref10_plain.F.c [1, 1, 1, 1, 1, 1, 1, 1, 1, 0, 1, 0, 0]) (f := (selvageref10_plain.l1 a_4 r_43 o_65)) (St := fun s_72 => ⟨[(3, .ro false 2 a_4.length (a_4.map api_Loc.c)), (10, .v (.bool r_43)), (12, vi o_65), (13, vi s_72)], [], []⟩) (xo := (fun o => match o with | Sum.inl _ => .ret | Sum.inr (_) => (.exit 0) : (Unit ⊕ Unit) → Ex)) (So := (fun o => match o with | Sum.inl s_76 => ⟨[(8, .v (.bool false))], [], []⟩ | Sum.inr (s_77) => ⟨[], [], []⟩ : (Unit ⊕ Unit) → ASt)) (by intro o; rcases o with _ | _ <;> simp) (fun s_72 z H => by
       unfold selvageref10_plain.l1 at H
       rcases ic H with ⟨h_78, H⟩ | ⟨h_78, H⟩
       ·rcases ic H with ⟨h_79, H⟩ | ⟨h_79, H⟩
        ·obtain rfl := sj H
         exact fn [br h_78, br h_79, pT, au]
        ·obtain ⟨g_80, H⟩ := gdE H
         let v_81 : api_Loc := gi a_4 s_72
         replace H := ltD H
         rcases ie H with ⟨h_82, H⟩ | ⟨h_82, H⟩
         ·obtain rfl := sj H
          exact fn [br h_78, br h_79, ix api_Loc.c g_80, pF, bn h_82]
         ·obtain rfl := sj H
          exact fn [br h_78, br h_79, ix api_Loc.c g_80, pF, bn h_82]
       ·obtain rfl := sj H
        exact fn [br h_78] (by kernel_rfl)) e_74
      rcases o_73 with s_76 | s_77
      ·obtain rfl := sj H
       exact selvageref10_plain.F.run tb mixed [sg_ 1 j_7, br h_29, ca [] (selvageref10_Has.ev e_31), sc_ j_34, ca [] (selvageref10_Has.ev e_42), ca [] (selvageref10_Has.ev e_44), ca [] (selvageref10_Has.ev e_46), sg_ 9 j_49, br h_53, sg_ 11 j_56, br h_59, sg_ 13 j_62, br h_64, sc_ j_67, su j_75] rfl (by kernel_rfl)
      ·obtain rfl := sj H
       exact selvageref10_plain.F.run tb mixed [sg_ 1 j_7, br h_29, ca [] (selvageref10_Has.ev e_31), sc_ j_34, ca [] (selvageref10_Has.ev e_42), ca [] (selvageref10_Has.ev e_44), ca [] (selvageref10_Has.ev e_46), sg_ 9 j_49, br h_53, sg_ 11 j_56, br h_59, sg_ 13 j_62, br h_64, sc_ j_67, su j_75] rfl (by kernel_rfl)
noncomputable def selvageref10_Before.F : FI Try.prog 23 := fi Try.f23 52 Try.call23 Try.func23
def selvageref10_Before.l1 (a_1 : List api_Ins) (a_2 : Int) (s_5 : (List Int) × Int) : Option (((List Int) × Int) ⊕ (List Int)) :=
 (if s_5.2 < (a_1.length : Int) then (some ((decide (s_5.2 < a_2)) : Bool)) else (some (false : Bool)) : Option Bool).bind fun o_9 => if o_9 = true then ((if s_5.2 = (wr .i64 (a_2 - 1)) then (if 0 ≤ s_5.2 ∧ s_5.2 < (a_1.length : Int) then (letC (gi a_1 s_5.2) fun v_19 => if v_19.Op = 18 then (letC (gi a_1 s_5.2) fun v_21 => (selvageref10_Has.m v_21.Op 116).bind fun r_22 => if r_22 = true then (letC (gi a_1 s_5.2) fun v_25 => some ((decide (v_25.To = a_2)) : Bool)) else (some (false : Bool))) else (some (true : Bool))) else none) else (if 0 ≤ s_5.2 ∧ s_5.2 < (a_1.length : Int) then (letC (gi a_1 s_5.2) fun v_27 => (selvageref10_Has.m v_27.Op 116).bind fun r_28 => if r_28 = true then (letC (gi a_1 s_5.2) fun v_31 => some ((decide (v_31.To = a_2)) : Bool)) else (some (false : Bool))) else none) : Option Bool).bind fun o_14 => if o_14 = true then (if (s_5.1.length + ([s_5.2] : List Int).length) * 8 ≤ 140737488355328 then (letC (s_5.1 ++ ([s_5.2] : List Int)) fun v_34 => letC (wr .i64 (s_5.2 + 1)) fun v_35 => some (Sum.inl (v_34, v_35))) else none) else (letC (wr .i64 (s_5.2 + 1)) fun v_36 => some (Sum.inl (s_5.1, v_36)))) else (some (Sum.inr s_5.1))
def selvageref10_Before.m (a_1 : List api_Ins) (a_2 : Int) : Option (List Int) :=
 (B.loop (selvageref10_Before.l1 a_1 a_2) ((([] : List Int), 0) : (List Int) × Int)).bind fun o_6 => some o_6
noncomputable def selvageref10_Before.o (a_1 : List api_Ins) (a_2 : Int) (r : List Int) : Out := .ret (sL 0 r) [.arr true 3 1 r.length (r.map (cI .i64))] []
theorem selvageref10_Before.ev {a_1 : List api_Ins} {a_2 : Int} {r : List Int} (H : selvageref10_Before.m a_1 a_2 = some r) : Ev Try.prog 23 [.ro false 8 a_1.length (a_1.map api_Ins.c), vi a_2] [] [] (selvageref10_Before.o a_1 a_2 r) := by
 unfold selvageref10_Before.m at H
 obtain ⟨o_6, e_7, H⟩ := bdE H
 have j_8 := Runs.loop (P := Try.prog) (N := selvageref10_Before.F.N) (m0 := 0) (c := sub_ selvageref10_Before.F.c [1, 1, 0, 1, 0, 0]) (f := (selvageref10_Before.l1 a_1 a_2)) (St := fun s_5 => ⟨[(0, .ro false 8 a_1.length (a_1.map api_Ins.c)), (1, vi a_2), (5, sL 0 s_5.1), (6, vi s_5.2)], [.arr true 3 1 s_5.1.length (s_5.1.map (cI .i64))], []⟩) (xo := (fun _ => (.exit 0) : (List Int) → Ex)) (So := (fun o_6 => ⟨[(5, sL 0 o_6)], [.arr true 3 1 o_6.length (o_6.map (cI .i64))], []⟩ : (List Int) → ASt)) (by intro o; simp) (fun s_5 z H => by
  unfold selvageref10_Before.l1 at H
  obtain ⟨o_9, e_10, H⟩ := bdE H
  have j_11 : Rq selvageref10_Before.F 0 [1, 1, 0, 1, 0, 0, 0, 0] ⟨[(0, .ro false 8 a_1.length (a_1.map api_Ins.c)), (1, vi a_2), (5, sL 0 s_5.1), (6, vi s_5.2)], [.arr true 3 1 s_5.1.length (s_5.1.map (cI .i64))], []⟩ ((fun _ => .normal : Bool → Ex) o_9) ((fun o_9 => ⟨[(0, .ro false 8 a_1.length (a_1.map api_Ins.c)), (1, vi a_2), (5, sL 0 s_5.1), (6, vi s_5.2), (15, .v (.bool o_9))], [.arr true 3 1 s_5.1.length (s_5.1.map (cI .i64))], []⟩ : Bool → ASt) o_9) := by
   clear H
   have H := e_10
   clear e_10
   rcases ic H with ⟨h_12, H⟩ | ⟨h_12, H⟩
   ·obtain rfl := sj H
    exact fn [br h_12, pT]
   ·obtain rfl := sj H
    exact fn [br h_12, pF]
  rcases ie H with ⟨h_13, H⟩ | ⟨h_13, H⟩
  ·obtain ⟨o_14, e_15, H⟩ := bdE H
   have j_16 : Rq selvageref10_Before.F 0 [1, 1, 0, 1, 0, 0, 1, 0, 0, 0] ⟨[(0, .ro false 8 a_1.length (a_1.map api_Ins.c)), (1, vi a_2), (5, sL 0 s_5.1), (6, vi s_5.2)], [.arr true 3 1 s_5.1.length (s_5.1.map (cI .i64))], []⟩ ((fun _ => .normal : Bool → Ex) o_14) ((fun o_14 => ⟨[(0, .ro false 8 a_1.length (a_1.map api_Ins.c)), (1, vi a_2), (5, sL 0 s_5.1), (6, vi s_5.2), (46, .v (.bool o_14))], [.arr true 3 1 s_5.1.length (s_5.1.map (cI .i64))], []⟩ : Bool → ASt) o_14) := by
    clear H
    have H := e_15
    clear e_15
    rcases ic H with ⟨h_17, H⟩ | ⟨h_17, H⟩
    ·obtain ⟨g_18, H⟩ := gdE H
     let v_19 : api_Ins := gi a_1 s_5.2
     replace H := ltD H
     rcases ic H with ⟨h_20, H⟩ | ⟨h_20, H⟩
     ·let v_21 : api_Ins := gi a_1 s_5.2
      replace H := ltD H
      obtain ⟨r_22, e_23, H⟩ := bdE H
      rcases ie H with ⟨h_24, H⟩ | ⟨h_24, H⟩
      ·let v_25 : api_Ins := gi a_1 s_5.2
       replace H := ltD H
       obtain rfl := sj H
       exact fn [br h_17, ix api_Ins.c g_18, pT, bn h_20, ix api_Ins.c g_18, ca [] (selvageref10_Has.ev e_23), br h_24, ix api_Ins.c g_18, pT, pF]
      ·obtain rfl := sj H
       exact fn [br h_17, ix api_Ins.c g_18, pT, bn h_20, ix api_Ins.c g_18, ca [] (selvageref10_Has.ev e_23), br h_24, pF, pF]
     ·obtain rfl := sj H
      exact fn [br h_17, ix api_Ins.c g_18, pT, bn h_20, pT]
    ·obtain ⟨g_26, H⟩ := gdE H
     let v_27 : api_Ins := gi a_1 s_5.2
     replace H := ltD H
     obtain ⟨r_28, e_29, H⟩ := bdE H
     rcases ie H with ⟨h_30, H⟩ | ⟨h_30, H⟩
     ·let v_31 : api_Ins := gi a_1 s_5.2
      replace H := ltD H
      obtain rfl := sj H
      exact fn [br h_17, pF, au, ix api_Ins.c g_26, ca [] (selvageref10_Has.ev e_29), br h_30, ix api_Ins.c g_26, pT, pF]
     ·obtain rfl := sj H
      exact fn [br h_17, pF, au, ix api_Ins.c g_26, ca [] (selvageref10_Has.ev e_29), br h_30, pF, pF]
   rcases ie H with ⟨h_32, H⟩ | ⟨h_32, H⟩
   ·obtain ⟨g_33, H⟩ := gdE H
    let v_34 : List Int := s_5.1 ++ ([s_5.2] : List Int)
    replace H := ltD H
    let v_35 : Int := wr .i64 (s_5.2 + 1)
    replace H := ltD H
    obtain rfl := sj H
    exact fn [sg_ 3 j_11, br h_13, sg_ 5 j_16, br h_32, ap (cI .i64) 8 false s_5.1 ([s_5.2] : List Int) g_33 (fun h => by cases h)]
   ·let v_36 : Int := wr .i64 (s_5.2 + 1)
    replace H := ltD H
    obtain rfl := sj H
    exact fn [sg_ 3 j_11, br h_13, sg_ 5 j_16, br h_32]
  ·obtain rfl := sj H
   exact fn [sg_ 3 j_11, br h_13] (by kernel_rfl)) e_7
 obtain rfl := sj H
 exact selvageref10_Before.F.run tb mixed [su j_8, adL 5 (some 3) 1] rfl (by kernel_rfl)
noncomputable def selvageref10_Right.F : FI Try.prog 10 := fi Try.f10 154 Try.call10 Try.func10
def selvageref10_Right.l2 (a_1 : List api_Ins) (s_14 : Int) (s_28 : Int) : Option (Int ⊕ (Unit ⊕ Unit)) :=
 if s_28 < s_14 then ((if 0 ≤ s_14 ∧ s_14 < (a_1.length : Int) then (letC (gi a_1 s_14) fun v_39 => (selvageref10_Has.m v_39.Op 100).bind fun r_40 => if r_40 = true then (if 0 ≤ s_28 ∧ s_28 < (a_1.length : Int) then (letC (gi a_1 s_28) fun v_44 => (selvageref10_Has.m v_44.Op 100).bind fun r_45 => if r_45 = true then (letC (gi a_1 s_14) fun v_48 => letC (gi a_1 s_28) fun v_49 => some ((decide (v_48.D = v_49.D)) : Bool)) else (some (false : Bool))) else none) else (some (false : Bool))) else none : Option Bool).bind fun o_35 => if o_35 = true then (some (Sum.inr (Sum.inl ()))) else (some (Sum.inl (wr .i64 (s_28 + 1))))) else (some (Sum.inr (Sum.inr (()))))
def selvageref10_Right.l4 (a_1 : List api_Ins) (s_53 : Int) (s_76 : Bool × Bool × Int) : Option ((Bool × Bool × Int) ⊕ (Bool × Bool)) :=
 if s_76.2.2 > 0 then ((selvageref10_Before.m a_1 s_76.2.2).bind fun r_81 => if 0 ≤ (0 : Int) ∧ (0 : Int) < (r_81.length : Int) then (letC (gi r_81 0) fun v_84 => if 0 ≤ v_84 ∧ v_84 < (a_1.length : Int) then (letC (gi a_1 v_84) fun v_86 => (selvageref10_Has.m v_86.Op 100).bind fun r_87 => if r_87 = true then ((if s_76.1 = true then (some (true : Bool)) else (letC (gi a_1 v_84) fun v_94 => if 0 ≤ s_53 ∧ s_53 < (a_1.length : Int) then (letC (gi a_1 s_53) fun v_96 => some ((decide (v_94.D = v_96.A)) : Bool)) else none) : Option Bool).bind fun o_90 => if s_76.2.1 = true then (some (Sum.inl (o_90, true, v_84))) else (letC (gi a_1 v_84) fun v_98 => if 0 ≤ s_53 ∧ s_53 < (a_1.length : Int) then (letC (gi a_1 s_53) fun v_100 => some (Sum.inl (o_90, (decide (v_98.D = v_100.B)), v_84))) else none)) else (some (Sum.inl (s_76.1, s_76.2.1, v_84)))) else none) else none) else (some (Sum.inr (s_76.1, s_76.2.1)))
def selvageref10_Right.l3 (a_1 : List api_Ins) (s_53 : Int) : Option (Int ⊕ (Unit ⊕ Unit)) :=
 if s_53 < (a_1.length : Int) then ((if s_53 > 0 then ((selvageref10_Before.m a_1 s_53).bind fun r_64 => some ((!(decide ((r_64.length : Int) = 1))) : Bool)) else (some (false : Bool)) : Option Bool).bind fun o_60 => if o_60 = true then (some (Sum.inr (Sum.inl ()))) else (if 0 ≤ s_53 ∧ s_53 < (a_1.length : Int) then (letC (gi a_1 s_53) fun v_68 => (selvageref10_Has.m v_68.Op 97).bind fun r_69 => letC (gi a_1 s_53) fun v_71 => (selvageref10_Has.m v_71.Op 98).bind fun r_72 => (B.loop (selvageref10_Right.l4 a_1 s_53) (((!r_69), (!r_72), s_53) : Bool × Bool × Int)).bind fun o_77 => if o_77.1 = true then (if o_77.2 = true then (some (Sum.inl (wr .i64 (s_53 + 1)))) else (some (Sum.inr (Sum.inl ())))) else (some (Sum.inr (Sum.inl ())))) else none)) else (some (Sum.inr (Sum.inr (()))))
def selvageref10_Right.l1 (a_1 : List api_Ins) (a_2 : List api_Loc) (s_14 : Int) : Option (Int ⊕ (Unit ⊕ Unit)) :=
 if s_14 < (a_1.length : Int) then (if 0 ≤ s_14 ∧ s_14 < (a_1.length : Int) then (letC (gi a_1 s_14) fun v_22 => (selvageref10_plain.m v_22 s_14 (a_1.length : Int) a_2).bind fun r_23 => if r_23 = true then ((B.loop (selvageref10_Right.l2 a_1 s_14) (0 : Int)).bind fun o_29 => match o_29 with | Sum.inl s_32 => (some (Sum.inr (Sum.inl ()))) | Sum.inr (s_33) => (some (Sum.inl (wr .i64 (s_14 + 1))))) else (some (Sum.inr (Sum.inl ())))) else none) else (some (Sum.inr (Sum.inr (()))))
def selvageref10_Right.m (a_1 : List api_Ins) (a_2 : List api_Loc) : Option (Bool) :=
 (if (a_1.length : Int) < 1 then (some (true : Bool)) else (if (a_1.length : Int) > 400 then (some (true : Bool)) else (letC (wr .i64 ((a_1.length : Int) - 1)) fun v_8 => if 0 ≤ v_8 ∧ v_8 < (a_1.length : Int) then (letC (gi a_1 v_8) fun v_10 => some ((!(decide (v_10.Op = 18))) : Bool)) else none)) : Option Bool).bind fun o_3 => if o_3 = true then (some false) else ((B.loop (selvageref10_Right.l1 a_1 a_2) (0 : Int)).bind fun o_15 => match o_15 with | Sum.inl s_18 => (some false) | Sum.inr (s_19) => ((B.loop (selvageref10_Right.l3 a_1) (0 : Int)).bind fun o_54 => match o_54 with | Sum.inl s_57 => (some false) | Sum.inr (s_58) => (some true)))
noncomputable def selvageref10_Right.o (a_1 : List api_Ins) (a_2 : List api_Loc) (r : Bool) : Out := .ret (.v (.bool r)) [] []
theorem selvageref10_Right.ev {a_1 : List api_Ins} {a_2 : List api_Loc} {r : Bool} (H : selvageref10_Right.m a_1 a_2 = some r) : Ev Try.prog 10 [.ro false 8 a_1.length (a_1.map api_Ins.c), .ro false 2 a_2.length (a_2.map api_Loc.c)] [] [] (selvageref10_Right.o a_1 a_2 r) := by
 unfold selvageref10_Right.m at H
 obtain ⟨o_3, e_4, H⟩ := bdE H
 have j_5 : Rq selvageref10_Right.F 0 [1, 0, 0] ⟨[(0, .ro false 8 a_1.length (a_1.map api_Ins.c)), (1, .ro false 2 a_2.length (a_2.map api_Loc.c))], [], []⟩ ((fun _ => .normal : Bool → Ex) o_3) ((fun o_3 => ⟨[(0, .ro false 8 a_1.length (a_1.map api_Ins.c)), (1, .ro false 2 a_2.length (a_2.map api_Loc.c)), (28, .v (.bool o_3))], [], []⟩ : Bool → ASt) o_3) := by
  clear H
  have H := e_4
  clear e_4
  rcases ic H with ⟨h_6, H⟩ | ⟨h_6, H⟩
  ·obtain rfl := sj H
   exact fn [br h_6, pT, au, pT]
  ·rcases ic H with ⟨h_7, H⟩ | ⟨h_7, H⟩
   ·obtain rfl := sj H
    exact fn [br h_6, pF, br h_7, pT]
   ·let v_8 : Int := wr .i64 ((a_1.length : Int) - 1)
    replace H := ltD H
    obtain ⟨g_9, H⟩ := gdE H
    let v_10 : api_Ins := gi a_1 v_8
    replace H := ltD H
    obtain rfl := sj H
    exact fn [br h_6, pF, br h_7, ix api_Ins.c g_9, pF]
 rcases ie H with ⟨h_11, H⟩ | ⟨h_11, H⟩
 ·obtain rfl := sj H
  exact selvageref10_Right.F.run tb mixed [sg_ 1 j_5, br h_11] rfl (by kernel_rfl)
 ·obtain ⟨o_15, e_16, H⟩ := bdE H
  have j_17 := Runs.loop (P := Try.prog) (N := selvageref10_Right.F.N) (m0 := 0) (c := sub_ selvageref10_Right.F.c [1, 1, 0, 1, 0, 0]) (f := (selvageref10_Right.l1 a_1 a_2)) (St := fun s_14 => ⟨[(0, .ro false 8 a_1.length (a_1.map api_Ins.c)), (1, .ro false 2 a_2.length (a_2.map api_Loc.c)), (5, vi s_14)], [], []⟩) (xo := (fun o => match o with | Sum.inl _ => .ret | Sum.inr (_) => (.exit 0) : (Unit ⊕ Unit) → Ex)) (So := (fun o => match o with | Sum.inl s_18 => ⟨[(4, .v (.bool false))], [], []⟩ | Sum.inr (s_19) => ⟨[(0, .ro false 8 a_1.length (a_1.map api_Ins.c))], [], []⟩ : (Unit ⊕ Unit) → ASt)) (by intro o; rcases o with _ | _ <;> simp) (fun s_14 z H => by
   unfold selvageref10_Right.l1 at H
   rcases ic H with ⟨h_20, H⟩ | ⟨h_20, H⟩
   ·obtain ⟨g_21, H⟩ := gdE H
    let v_22 : api_Ins := gi a_1 s_14
    replace H := ltD H
    obtain ⟨r_23, e_24, H⟩ := bdE H
    rcases ie H with ⟨h_25, H⟩ | ⟨h_25, H⟩
    ·obtain ⟨o_29, e_30, H⟩ := bdE H
     have j_31 := Runs.loop (P := Try.prog) (N := selvageref10_Right.F.N) (m0 := 0) (c := sub_ selvageref10_Right.F.c [1, 1, 0, 1, 0, 0, 1, 0, 0, 1, 1, 0, 0]) (f := (selvageref10_Right.l2 a_1 s_14)) (St := fun s_28 => ⟨[(0, .ro false 8 a_1.length (a_1.map api_Ins.c)), (1, .ro false 2 a_2.length (a_2.map api_Loc.c)), (5, vi s_14), (6, vi s_28)], [], []⟩) (xo := (fun o => match o with | Sum.inl _ => .ret | Sum.inr (_) => (.exit 2) : (Unit ⊕ Unit) → Ex)) (So := (fun o => match o with | Sum.inl s_32 => ⟨[(4, .v (.bool false))], [], []⟩ | Sum.inr (s_33) => ⟨[(0, .ro false 8 a_1.length (a_1.map api_Ins.c)), (1, .ro false 2 a_2.length (a_2.map api_Loc.c)), (5, vi s_14)], [], []⟩ : (Unit ⊕ Unit) → ASt)) (by intro o; rcases o with _ | _ <;> simp) (fun s_28 z H => by
      unfold selvageref10_Right.l2 at H
      rcases ic H with ⟨h_34, H⟩ | ⟨h_34, H⟩
      ·obtain ⟨o_35, e_36, H⟩ := bdE H
       have j_37 : Rq selvageref10_Right.F 0 [1, 1, 0, 1, 0, 0, 1, 0, 0, 1, 1, 0, 0, 1, 0, 0, 0] ⟨[(0, .ro false 8 a_1.length (a_1.map api_Ins.c)), (1, .ro false 2 a_2.length (a_2.map api_Loc.c)), (5, vi s_14), (6, vi s_28)], [], []⟩ ((fun _ => .normal : Bool → Ex) o_35) ((fun o_35 => ⟨[(0, .ro false 8 a_1.length (a_1.map api_Ins.c)), (1, .ro false 2 a_2.length (a_2.map api_Loc.c)), (5, vi s_14), (6, vi s_28), (76, .v (.bool o_35))], [], []⟩ : Bool → ASt) o_35) := by
        clear H
        have H := e_36
        clear e_36
        obtain ⟨g_38, H⟩ := gdE H
        let v_39 : api_Ins := gi a_1 s_14
        replace H := ltD H
        obtain ⟨r_40, e_41, H⟩ := bdE H
        rcases ie H with ⟨h_42, H⟩ | ⟨h_42, H⟩
        ·obtain ⟨g_43, H⟩ := gdE H
         let v_44 : api_Ins := gi a_1 s_28
         replace H := ltD H
         obtain ⟨r_45, e_46, H⟩ := bdE H
         rcases ie H with ⟨h_47, H⟩ | ⟨h_47, H⟩
         ·let v_48 : api_Ins := gi a_1 s_14
          replace H := ltD H
          let v_49 : api_Ins := gi a_1 s_28
          replace H := ltD H
          obtain rfl := sj H
          exact fn [ix api_Ins.c g_38, ca [] (selvageref10_Has.ev e_41), br h_42, ix api_Ins.c g_43, ca [] (selvageref10_Has.ev e_46), pT, br h_47, ix api_Ins.c g_38, ix api_Ins.c g_43, pT]
         ·obtain rfl := sj H
          exact fn [ix api_Ins.c g_38, ca [] (selvageref10_Has.ev e_41), br h_42, ix api_Ins.c g_43, ca [] (selvageref10_Has.ev e_46), pT, br h_47, pF]
        ·obtain rfl := sj H
         exact fn [ix api_Ins.c g_38, ca [] (selvageref10_Has.ev e_41), br h_42, pF, au, pF]
       rcases ie H with ⟨h_50, H⟩ | ⟨h_50, H⟩
       ·obtain rfl := sj H
        exact fn [br h_34, sg_ 11 j_37, br h_50]
       ·obtain rfl := sj H
        exact fn [br h_34, sg_ 11 j_37, br h_50]
      ·obtain rfl := sj H
       exact fn [br h_34] (by kernel_rfl)) e_30
     rcases o_29 with s_32 | s_33
     ·obtain rfl := sj H
      exact fn [br h_20, ix api_Ins.c g_21, ca [] (selvageref10_plain.ev e_24), bn h_25, su j_31]
     ·obtain rfl := sj H
      exact fn [br h_20, ix api_Ins.c g_21, ca [] (selvageref10_plain.ev e_24), bn h_25, su j_31]
    ·obtain rfl := sj H
     exact fn [br h_20, ix api_Ins.c g_21, ca [] (selvageref10_plain.ev e_24), bn h_25]
   ·obtain rfl := sj H
    exact fn [br h_20] (by kernel_rfl)) e_16
  rcases o_15 with s_18 | s_19
  ·obtain rfl := sj H
   exact selvageref10_Right.F.run tb mixed [sg_ 1 j_5, br h_11, su j_17] rfl (by kernel_rfl)
  ·obtain ⟨o_54, e_55, H⟩ := bdE H
   have j_56 := Runs.loop (P := Try.prog) (N := selvageref10_Right.F.N) (m0 := 0) (c := sub_ selvageref10_Right.F.c [1, 1, 1, 0, 1, 0, 0]) (f := (selvageref10_Right.l3 a_1)) (St := fun s_53 => ⟨[(0, .ro false 8 a_1.length (a_1.map api_Ins.c)), (7, vi s_53)], [], []⟩) (xo := (fun o => match o with | Sum.inl _ => .ret | Sum.inr (_) => (.exit 4) : (Unit ⊕ Unit) → Ex)) (So := (fun o => match o with | Sum.inl s_57 => ⟨[(4, .v (.bool false))], [], []⟩ | Sum.inr (s_58) => ⟨[], [], []⟩ : (Unit ⊕ Unit) → ASt)) (by intro o; rcases o with _ | _ <;> simp) (fun s_53 z H => by
    unfold selvageref10_Right.l3 at H
    rcases ic H with ⟨h_59, H⟩ | ⟨h_59, H⟩
    ·obtain ⟨o_60, e_61, H⟩ := bdE H
     have j_62 : Rq selvageref10_Right.F 0 [1, 1, 1, 0, 1, 0, 0, 1, 0, 0, 0, 0] ⟨[(0, .ro false 8 a_1.length (a_1.map api_Ins.c)), (7, vi s_53)], [], []⟩ ((fun _ => .normal : Bool → Ex) o_60) ((fun o_60 => ⟨[(0, .ro false 8 a_1.length (a_1.map api_Ins.c)), (7, vi s_53), (91, .v (.bool o_60))], [], []⟩ : Bool → ASt) o_60) := by
      clear H
      have H := e_61
      clear e_61
      rcases ic H with ⟨h_63, H⟩ | ⟨h_63, H⟩
      ·obtain ⟨r_64, e_65, H⟩ := bdE H
       obtain rfl := sj H
       exact fn [br h_63, ca [] (selvageref10_Before.ev e_65), pT]
      ·obtain rfl := sj H
       exact fn [br h_63, pF]
     rcases ie H with ⟨h_66, H⟩ | ⟨h_66, H⟩
     ·obtain rfl := sj H
      exact fn [br h_59, sg_ 16 j_62, br h_66]
     ·obtain ⟨g_67, H⟩ := gdE H
      let v_68 : api_Ins := gi a_1 s_53
      replace H := ltD H
      obtain ⟨r_69, e_70, H⟩ := bdE H
      let v_71 : api_Ins := gi a_1 s_53
      replace H := ltD H
      obtain ⟨r_72, e_73, H⟩ := bdE H
      obtain ⟨o_77, e_78, H⟩ := bdE H
      have j_79 := Runs.loop (P := Try.prog) (N := selvageref10_Right.F.N) (m0 := 0) (c := sub_ selvageref10_Right.F.c [1, 1, 1, 0, 1, 0, 0, 1, 0, 0, 1, 1, 0, 1, 0, 0]) (f := (selvageref10_Right.l4 a_1 s_53)) (St := fun s_76 => ⟨[(0, .ro false 8 a_1.length (a_1.map api_Ins.c)), (7, vi s_53), (8, .v (.bool s_76.1)), (9, .v (.bool s_76.2.1)), (10, vi s_76.2.2)], [], []⟩) (xo := (fun _ => (.exit 6) : (Bool × Bool) → Ex)) (So := (fun o_77 => ⟨[(0, .ro false 8 a_1.length (a_1.map api_Ins.c)), (7, vi s_53), (8, .v (.bool o_77.1)), (9, .v (.bool o_77.2))], [], []⟩ : (Bool × Bool) → ASt)) (by intro o; simp) (fun s_76 z H => by
       unfold selvageref10_Right.l4 at H
       rcases ic H with ⟨h_80, H⟩ | ⟨h_80, H⟩
       ·obtain ⟨r_81, e_82, H⟩ := bdE H
        obtain ⟨g_83, H⟩ := gdE H
        let v_84 : Int := gi r_81 0
        replace H := ltD H
        obtain ⟨g_85, H⟩ := gdE H
        let v_86 : api_Ins := gi a_1 v_84
        replace H := ltD H
        obtain ⟨r_87, e_88, H⟩ := bdE H
        rcases ie H with ⟨h_89, H⟩ | ⟨h_89, H⟩
        ·obtain ⟨o_90, e_91, H⟩ := bdE H
         have j_92 : Rq selvageref10_Right.F 0 [1, 1, 1, 0, 1, 0, 0, 1, 0, 0, 1, 1, 0, 1, 0, 0, 1, 0, 1, 1, 0, 0] ⟨[(0, .ro false 8 a_1.length (a_1.map api_Ins.c)), (7, vi s_53), (8, .v (.bool s_76.1)), (9, .v (.bool s_76.2.1)), (10, vi v_84)], [], []⟩ ((fun _ => .normal : Bool → Ex) o_90) ((fun o_90 => ⟨[(0, .ro false 8 a_1.length (a_1.map api_Ins.c)), (7, vi s_53), (8, .v (.bool o_90)), (9, .v (.bool s_76.2.1)), (10, vi v_84)], [], []⟩ : Bool → ASt) o_90) := by
          clear H
          have H := e_91
          clear e_91
          rcases ie H with ⟨h_93, H⟩ | ⟨h_93, H⟩
          ·obtain rfl := sj H
           exact fn [br h_93, pT]
          ·let v_94 : api_Ins := gi a_1 v_84
           replace H := ltD H
           obtain ⟨g_95, H⟩ := gdE H
           let v_96 : api_Ins := gi a_1 s_53
           replace H := ltD H
           obtain rfl := sj H
           exact fn [br h_93, ix api_Ins.c g_85, ix api_Ins.c g_95, pF]
         rcases ie H with ⟨h_97, H⟩ | ⟨h_97, H⟩
         ·obtain rfl := sj H
          exact fn [br h_80, ca [] (selvageref10_Before.ev e_82), pf g_83, el (cI .i64) g_83, ix api_Ins.c g_85, ca [] (selvageref10_Has.ev e_88), br h_89, sg_ 23 j_92, br h_97, pT]
         ·let v_98 : api_Ins := gi a_1 v_84
          replace H := ltD H
          obtain ⟨g_99, H⟩ := gdE H
          let v_100 : api_Ins := gi a_1 s_53
          replace H := ltD H
          obtain rfl := sj H
          exact fn [br h_80, ca [] (selvageref10_Before.ev e_82), pf g_83, el (cI .i64) g_83, ix api_Ins.c g_85, ca [] (selvageref10_Has.ev e_88), br h_89, sg_ 23 j_92, br h_97, ix api_Ins.c g_85, ix api_Ins.c g_99, pF]
        ·obtain rfl := sj H
         exact fn [br h_80, ca [] (selvageref10_Before.ev e_82), pf g_83, el (cI .i64) g_83, ix api_Ins.c g_85, ca [] (selvageref10_Has.ev e_88), br h_89]
       ·obtain rfl := sj H
        exact fn [br h_80] (by kernel_rfl)) e_78
      rcases ie H with ⟨h_101, H⟩ | ⟨h_101, H⟩
      ·rcases ie H with ⟨h_102, H⟩ | ⟨h_102, H⟩
       ·obtain rfl := sj H
        exact fn [br h_59, sg_ 16 j_62, br h_66, ix api_Ins.c g_67, ca [] (selvageref10_Has.ev e_70), ix api_Ins.c g_67, ca [] (selvageref10_Has.ev e_73), su j_79, bn h_101, pF, bn h_102]
       ·obtain rfl := sj H
        exact fn [br h_59, sg_ 16 j_62, br h_66, ix api_Ins.c g_67, ca [] (selvageref10_Has.ev e_70), ix api_Ins.c g_67, ca [] (selvageref10_Has.ev e_73), su j_79, bn h_101, pF, bn h_102]
      ·obtain rfl := sj H
       exact fn [br h_59, sg_ 16 j_62, br h_66, ix api_Ins.c g_67, ca [] (selvageref10_Has.ev e_70), ix api_Ins.c g_67, ca [] (selvageref10_Has.ev e_73), su j_79, bn h_101, pT, au]
    ·obtain rfl := sj H
     exact fn [br h_59] (by kernel_rfl)) e_55
   rcases o_54 with s_57 | s_58
   ·obtain rfl := sj H
    exact selvageref10_Right.F.run tb mixed [sg_ 1 j_5, br h_11, su j_17, su j_56] rfl (by kernel_rfl)
   ·obtain rfl := sj H
    exact selvageref10_Right.F.run tb mixed [sg_ 1 j_5, br h_11, su j_17, su j_56] rfl (by kernel_rfl)
noncomputable def selvagelaw12_FoldRight.F : FI Try.prog 4 := fi Try.f4 37 Try.call4 Try.func4
def selvagelaw12_FoldRight.m (a_1 : List api_Ins) (a_2 : List api_Loc) : Option (Bool) :=
 (selvagelaw12_awake.m).bind fun r_3 => if r_3 = true then ((if (a_1.length : Int) > 410 then (some (true : Bool)) else (some ((decide ((a_2.length : Int) > 16)) : Bool)) : Option Bool).bind fun o_6 => if o_6 = true then (some true) else ((fold_Fold.m a_1 a_2).bind fun r_11 => match r_11 with | Sum.inl r_13 => ((selvageref10_Right.m r_13 a_2).bind fun r_15 => if r_15 = true then (some (decide ((r_13.length : Int) ≤ (a_1.length : Int)))) else (some false)) | Sum.inr (r_14) => (some true))) else (some false)
noncomputable def selvagelaw12_FoldRight.o (a_1 : List api_Ins) (a_2 : List api_Loc) (r : Bool) : Out := .ret (.v (.bool r)) [] []
theorem selvagelaw12_FoldRight.ev {a_1 : List api_Ins} {a_2 : List api_Loc} {r : Bool} (H : selvagelaw12_FoldRight.m a_1 a_2 = some r) : Ev Try.prog 4 [.ro false 8 a_1.length (a_1.map api_Ins.c), .ro false 2 a_2.length (a_2.map api_Loc.c)] [] [] (selvagelaw12_FoldRight.o a_1 a_2 r) := by
 unfold selvagelaw12_FoldRight.m at H
 obtain ⟨r_3, e_4, H⟩ := bdE H
 rcases ie H with ⟨h_5, H⟩ | ⟨h_5, H⟩
 ·obtain ⟨o_6, e_7, H⟩ := bdE H
  have j_8 : Rq selvagelaw12_FoldRight.F 0 [1, 1, 0, 0] ⟨[(0, .ro false 8 a_1.length (a_1.map api_Ins.c)), (1, .ro false 2 a_2.length (a_2.map api_Loc.c))], [], []⟩ ((fun _ => .normal : Bool → Ex) o_6) ((fun o_6 => ⟨[(0, .ro false 8 a_1.length (a_1.map api_Ins.c)), (1, .ro false 2 a_2.length (a_2.map api_Loc.c)), (16, .v (.bool o_6))], [], []⟩ : Bool → ASt) o_6) := by
   clear H
   have H := e_7
   clear e_7
   rcases ic H with ⟨h_9, H⟩ | ⟨h_9, H⟩
   ·obtain rfl := sj H
    exact fn [br h_9, pT]
   ·obtain rfl := sj H
    exact fn [br h_9, pF]
  rcases ie H with ⟨h_10, H⟩ | ⟨h_10, H⟩
  ·obtain rfl := sj H
   exact selvagelaw12_FoldRight.F.run tb mixed [ca [] (selvagelaw12_awake.ev e_4), bn h_5, sg_ 3 j_8, br h_10] rfl (by kernel_rfl)
  ·obtain ⟨r_11, e_12, H⟩ := bdE H
   rcases r_11 with r_13 | r_14
   ·obtain ⟨r_15, e_16, H⟩ := bdE H
    rcases ie H with ⟨h_17, H⟩ | ⟨h_17, H⟩
    ·obtain rfl := sj H
     exact selvagelaw12_FoldRight.F.run tb mixed [ca [] (selvagelaw12_awake.ev e_4), bn h_5, sg_ 3 j_8, br h_10, ca [] (fold_Fold.ev e_12), here 6, frz 0 [5] [], au, ca [] (selvageref10_Right.ev e_16), br h_17, pT, pF] rfl (by kernel_rfl)
    ·obtain rfl := sj H
     exact selvagelaw12_FoldRight.F.run tb mixed [ca [] (selvagelaw12_awake.ev e_4), bn h_5, sg_ 3 j_8, br h_10, ca [] (fold_Fold.ev e_12), here 6, frz 0 [5] [], au, ca [] (selvageref10_Right.ev e_16), br h_17, pF, pF] rfl (by kernel_rfl)
   ·obtain rfl := sj H
    exact selvagelaw12_FoldRight.F.run tb mixed [ca [] (selvagelaw12_awake.ev e_4), bn h_5, sg_ 3 j_8, br h_10, ca [] (fold_Fold.ev e_12), au, pT] rfl (by kernel_rfl)
 ·obtain rfl := sj H
  exact selvagelaw12_FoldRight.F.run tb mixed [ca [] (selvagelaw12_awake.ev e_4), bn h_5] rfl (by kernel_rfl)
end Go.Proofs.Ytbdbmklkgjbehaa

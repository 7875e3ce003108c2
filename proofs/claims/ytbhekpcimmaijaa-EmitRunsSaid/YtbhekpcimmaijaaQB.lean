/- QB: several texts in one. -/
import Derived.Test.YtbhekpcimmaijaaQA
import Derived.Test.YtbhekpcimmaijaaLE
set_option linter.unusedVariables false
set_option linter.unusedSimpArgs false
set_option linter.unusedSectionVars false
set_option maxRecDepth 100000
namespace Go.Proofs.Ytbhekpcimmaijaa
open Go Go.RowKit Go.Proofs Go.Proofs.Ytbhekpcimmaijaa.X
open Go.Proofs.Ytbhekpcimmaijaa.B (wr sb feq fls qf flt i2f aget aset isnan isnan_flt)
noncomputable def emit_writer_piece_7.F : FI Try.prog 21 := fi Try.f21 151 Try.call21 Try.func21
def emit_writer_piece_7.m (a_1 : api_Ins) (a_2 : List api_Home) (a_3 : Nat) (a_4 : List api_Inst) (a_5 : List Int) (a_6 : List emit_jump) : Option ((List api_Inst) × (List emit_jump)) :=
 if a_1.Op = 1 then ((emit_writer_target_8.m a_1.D a_2 a_3 a_4 a_5 a_6).bind fun r_8 => (emit_writer_number_4.m r_8 a_1.K a_2 a_3 a_4 a_5 a_6).bind fun r_10 => (emit_writer_keep_4.m a_1.D a_2 a_3 r_10 a_5 a_6).bind fun r_12 => some (r_12, a_6)) else ((if a_1.Op = 2 then (some (true : Bool)) else (if a_1.Op = 3 then (some (true : Bool)) else (if a_1.Op = 4 then (some (true : Bool)) else (some ((decide (a_1.Op = 5)) : Bool)))) : Option Bool).bind fun o_14 => if o_14 = true then ((emit_writer_reckon_7.m a_1 a_2 a_3 a_4 a_5 a_6).bind fun r_21 => some (r_21, a_6)) else (if a_1.Op = 6 then ((emit_writer_target_8.m a_1.D a_2 a_3 a_4 a_5 a_6).bind fun r_24 => letC (wr .i64 ((8 : Int) * a_1.Loc)) fun v_26 => (emit_writer_add_12.m 10 r_24 2 0 v_26 a_2 a_3 a_4 a_5 a_6).bind fun r_27 => (emit_writer_decided_4.m r_24 a_2 a_3 r_27 a_5 a_6).bind fun r_29 => (emit_writer_keep_4.m a_1.D a_2 a_3 r_29 a_5 a_6).bind fun r_31 => some (r_31, a_6)) else (if a_1.Op = 7 then ((emit_writer_use_8.m a_1.A 11 a_2 a_3 a_4 a_5 a_6).bind fun r_34 => letC (wr .i64 ((8 : Int) * a_1.Loc)) fun v_36 => (emit_writer_add_12.m 11 r_34.2 2 0 v_36 a_2 a_3 r_34.1 a_5 a_6).bind fun r_37 => some (r_37, a_6)) else (if a_1.Op = 13 then ((emit_writer_use_8.m a_1.A 11 a_2 a_3 a_4 a_5 a_6).bind fun r_40 => (emit_writer_bounds_5.m r_40.2 a_1.Len a_2 a_3 r_40.1 a_5 a_6).bind fun r_42 => letC (wr .i64 ((8 : Int) * a_1.Loc)) fun v_44 => (emit_writer_add_12.m 1 12 12 0 v_44 a_2 a_3 r_42 a_5 a_6).bind fun r_45 => (emit_writer_target_8.m a_1.D a_2 a_3 r_45 a_5 a_6).bind fun r_47 => (emit_writer_add_12.m 12 r_47 2 12 0 a_2 a_3 r_45 a_5 a_6).bind fun r_49 => (emit_writer_decided_4.m r_47 a_2 a_3 r_49 a_5 a_6).bind fun r_51 => (emit_writer_keep_4.m a_1.D a_2 a_3 r_51 a_5 a_6).bind fun r_53 => some (r_53, a_6)) else (if a_1.Op = 14 then ((emit_writer_use_8.m a_1.A 11 a_2 a_3 a_4 a_5 a_6).bind fun r_56 => (emit_writer_bounds_5.m r_56.2 a_1.Len a_2 a_3 r_56.1 a_5 a_6).bind fun r_58 => letC (wr .i64 ((8 : Int) * a_1.Loc)) fun v_60 => (emit_writer_add_12.m 1 12 12 0 v_60 a_2 a_3 r_58 a_5 a_6).bind fun r_61 => (emit_writer_use_8.m a_1.B 10 a_2 a_3 r_61 a_5 a_6).bind fun r_63 => (emit_writer_add_12.m 13 r_63.2 2 12 0 a_2 a_3 r_63.1 a_5 a_6).bind fun r_65 => some (r_65, a_6)) else (if a_1.Op = 15 then ((emit_writer_use_8.m a_1.A 11 a_2 a_3 a_4 a_5 a_6).bind fun r_68 => (emit_writer_add_12.m 1 3 r_68.2 0 0 a_2 a_3 r_68.1 a_5 a_6).bind fun r_70 => (emit_writer_call_8.m 1 a_2 a_3 r_70 a_5 a_6).bind fun r_72 => some (r_72, a_6)) else ((if a_1.Op = 16 then (some (true : Bool)) else (some ((decide (a_1.Op = 17)) : Bool)) : Option Bool).bind fun o_74 => if o_74 = true then ((emit_writer_use_8.m a_1.A 11 a_2 a_3 a_4 a_5 a_6).bind fun r_79 => (emit_writer_use_8.m a_1.B 10 a_2 a_3 r_79.1 a_5 a_6).bind fun r_81 => (emit_writer_add_12.m 16 0 r_79.2 r_81.2 0 a_2 a_3 r_81.1 a_5 a_6).bind fun r_83 => if a_1.Op = 16 then ((emit_writer_leave_4.m 1 a_1.To a_2 a_3 r_83 a_5 a_6).bind fun r_86 => some (r_86.1, r_86.2)) else ((emit_writer_leave_4.m 3 a_1.To a_2 a_3 r_83 a_5 a_6).bind fun r_88 => some (r_88.1, r_88.2))) else (if a_1.Op = 18 then ((emit_writer_call_8.m 0 a_2 a_3 a_4 a_5 a_6).bind fun r_91 => some (r_91, a_6)) else ((emit_writer_atomic_7.m a_1 a_2 a_3 a_4 a_5 a_6).bind fun r_93 => some (r_93.1, r_93.2))))))))))
noncomputable def emit_writer_piece_7.o (a_1 : api_Ins) (a_2 : List api_Home) (a_3 : Nat) (a_4 : List api_Inst) (a_5 : List Int) (a_6 : List emit_jump) (r : (List api_Inst) × (List emit_jump)) : Out := .ret (.tup []) [.box [.sl 0 1 a_3 0 a_3, sL 2 r.1, sL 3 a_5, sL 4 r.2], .arr true 79 2 a_3 (a_2.map api_Home.c), .arr true 39 5 r.1.length (r.1.map api_Inst.c), .arr true 3 1 a_5.length (a_5.map (cI .i64)), .arr true 74 2 r.2.length (r.2.map emit_jump.c)] []
theorem emit_writer_piece_7.ev {a_1 : api_Ins} {a_2 : List api_Home} {a_3 : Nat} {a_4 : List api_Inst} {a_5 : List Int} {a_6 : List emit_jump} {r : (List api_Inst) × (List emit_jump)} (H : emit_writer_piece_7.m a_1 a_2 a_3 a_4 a_5 a_6 = some r) : Ev Try.prog 21 [.ref 0 0, .agg (api_Ins.c a_1)] [.box [.sl 0 1 a_3 0 a_3, sL 2 a_4, sL 3 a_5, sL 4 a_6], .arr true 79 2 a_3 (a_2.map api_Home.c), .arr true 39 5 a_4.length (a_4.map api_Inst.c), .arr true 3 1 a_5.length (a_5.map (cI .i64)), .arr true 74 2 a_6.length (a_6.map emit_jump.c)] [] (emit_writer_piece_7.o a_1 a_2 a_3 a_4 a_5 a_6 r) := by
 unfold emit_writer_piece_7.m at H
 rcases ic H with ⟨h_7, H⟩ | ⟨h_7, H⟩
 ·obtain ⟨r_8, e_9, H⟩ := bdE H
  obtain ⟨r_10, e_11, H⟩ := bdE H
  obtain ⟨r_12, e_13, H⟩ := bdE H
  obtain rfl := sj H
  exact emit_writer_piece_7.F.run tb mixed [br h_7, kp [0, 1, 2, 3, 4] [.box [.sl 0 1 a_3 0 a_3, sL 2 a_4, sL 3 a_5, sL 4 a_6], .arr true 79 2 a_3 (a_2.map api_Home.c), .arr true 39 5 a_4.length (a_4.map api_Inst.c), .arr true 3 1 a_5.length (a_5.map (cI .i64)), .arr true 74 2 a_6.length (a_6.map emit_jump.c)] (ca [0, 1, 2, 3, 4] (emit_writer_target_8.ev e_9)), kp [1, 3, 4] [.arr true 79 2 a_3 (a_2.map api_Home.c), .arr true 3 1 a_5.length (a_5.map (cI .i64)), .arr true 74 2 a_6.length (a_6.map emit_jump.c)] (ca [0, 1, 2, 3, 4] (emit_writer_number_4.ev e_11)), ca [0, 1, 2, 3, 4] (emit_writer_keep_4.ev e_13)] rfl (by kernel_rfl)
 ·obtain ⟨o_14, e_15, H⟩ := bdE H
  have j_16 : Rq emit_writer_piece_7.F 5 [1, 1, 0, 1, 1, 0, 1] ⟨[(0, .ref 0 0), (3, .ref 5 0), (7, vi a_1.Op), (25, .v (.bool (decide (a_1.Op = 2))))], [.box [.sl 0 1 a_3 0 a_3, sL 2 a_4, sL 3 a_5, sL 4 a_6], .arr true 79 2 a_3 (a_2.map api_Home.c), .arr true 39 5 a_4.length (a_4.map api_Inst.c), .arr true 3 1 a_5.length (a_5.map (cI .i64)), .arr true 74 2 a_6.length (a_6.map emit_jump.c), .box (api_Ins.c a_1)], []⟩ ((fun _ => .normal : Bool → Ex) o_14) ((fun o_14 => ⟨[(0, .ref 0 0), (3, .ref 5 0), (7, vi a_1.Op), (25, .v (.bool o_14))], [.box [.sl 0 1 a_3 0 a_3, sL 2 a_4, sL 3 a_5, sL 4 a_6], .arr true 79 2 a_3 (a_2.map api_Home.c), .arr true 39 5 a_4.length (a_4.map api_Inst.c), .arr true 3 1 a_5.length (a_5.map (cI .i64)), .arr true 74 2 a_6.length (a_6.map emit_jump.c), .box (api_Ins.c a_1)], []⟩ : Bool → ASt) o_14) := by
   clear H
   have H := e_15
   clear e_15
   rcases ic H with ⟨h_17, H⟩ | ⟨h_17, H⟩
   ·obtain rfl := sj H
    exact fn [br h_17]
   ·rcases ic H with ⟨h_18, H⟩ | ⟨h_18, H⟩
    ·obtain rfl := sj H
     exact fn [br h_17, br h_18]
    ·rcases ic H with ⟨h_19, H⟩ | ⟨h_19, H⟩
     ·obtain rfl := sj H
      exact fn [br h_17, br h_18, br h_19]
     ·obtain rfl := sj H
      exact fn [br h_17, br h_18, br h_19]
  rcases ie H with ⟨h_20, H⟩ | ⟨h_20, H⟩
  ·obtain ⟨r_21, e_22, H⟩ := bdE H
   obtain rfl := sj H
   exact emit_writer_piece_7.F.run tb mixed [br h_7, sc_ j_16, br h_20, ca [0, 1, 2, 3, 4] (emit_writer_reckon_7.ev e_22)] rfl (by kernel_rfl)
  ·rcases ic H with ⟨h_23, H⟩ | ⟨h_23, H⟩
   ·obtain ⟨r_24, e_25, H⟩ := bdE H
    let v_26 : Int := wr .i64 ((8 : Int) * a_1.Loc)
    replace H := ltD H
    obtain ⟨r_27, e_28, H⟩ := bdE H
    obtain ⟨r_29, e_30, H⟩ := bdE H
    obtain ⟨r_31, e_32, H⟩ := bdE H
    obtain rfl := sj H
    exact emit_writer_piece_7.F.run tb mixed [br h_7, sc_ j_16, br h_20, br h_23, ca [0, 1, 2, 3, 4] (emit_writer_target_8.ev e_25), ca [0, 1, 2, 3, 4] (emit_writer_add_12.ev e_28), ca [0, 1, 2, 3, 4] (emit_writer_decided_4.ev e_30), ca [0, 1, 2, 3, 4] (emit_writer_keep_4.ev e_32)] rfl (by kernel_rfl)
   ·rcases ic H with ⟨h_33, H⟩ | ⟨h_33, H⟩
    ·obtain ⟨r_34, e_35, H⟩ := bdE H
     let v_36 : Int := wr .i64 ((8 : Int) * a_1.Loc)
     replace H := ltD H
     obtain ⟨r_37, e_38, H⟩ := bdE H
     obtain rfl := sj H
     exact emit_writer_piece_7.F.run tb mixed [br h_7, sc_ j_16, br h_20, br h_23, br h_33, kp [1, 3, 4] [.arr true 79 2 a_3 (a_2.map api_Home.c), .arr true 3 1 a_5.length (a_5.map (cI .i64)), .arr true 74 2 a_6.length (a_6.map emit_jump.c)] (ca [0, 1, 2, 3, 4] (emit_writer_use_8.ev e_35)), kp [1, 3, 4] [.arr true 79 2 a_3 (a_2.map api_Home.c), .arr true 3 1 a_5.length (a_5.map (cI .i64)), .arr true 74 2 a_6.length (a_6.map emit_jump.c)] (ca [0, 1, 2, 3, 4] (emit_writer_add_12.ev e_38))] rfl (by kernel_rfl)
    ·rcases ic H with ⟨h_39, H⟩ | ⟨h_39, H⟩
     ·obtain ⟨r_40, e_41, H⟩ := bdE H
      obtain ⟨r_42, e_43, H⟩ := bdE H
      let v_44 : Int := wr .i64 ((8 : Int) * a_1.Loc)
      replace H := ltD H
      obtain ⟨r_45, e_46, H⟩ := bdE H
      obtain ⟨r_47, e_48, H⟩ := bdE H
      obtain ⟨r_49, e_50, H⟩ := bdE H
      obtain ⟨r_51, e_52, H⟩ := bdE H
      obtain ⟨r_53, e_54, H⟩ := bdE H
      obtain rfl := sj H
      exact emit_writer_piece_7.F.run tb mixed [br h_7, sc_ j_16, br h_20, br h_23, br h_33, br h_39, kp [1, 3, 4] [.arr true 79 2 a_3 (a_2.map api_Home.c), .arr true 3 1 a_5.length (a_5.map (cI .i64)), .arr true 74 2 a_6.length (a_6.map emit_jump.c)] (ca [0, 1, 2, 3, 4] (emit_writer_use_8.ev e_41)), kp [1, 3, 4] [.arr true 79 2 a_3 (a_2.map api_Home.c), .arr true 3 1 a_5.length (a_5.map (cI .i64)), .arr true 74 2 a_6.length (a_6.map emit_jump.c)] (ca [0, 1, 2, 3, 4] (emit_writer_bounds_5.ev e_43)), ca [0, 1, 2, 3, 4] (emit_writer_add_12.ev e_46), ca [0, 1, 2, 3, 4] (emit_writer_target_8.ev e_48), ca [0, 1, 2, 3, 4] (emit_writer_add_12.ev e_50), ca [0, 1, 2, 3, 4] (emit_writer_decided_4.ev e_52), ca [0, 1, 2, 3, 4] (emit_writer_keep_4.ev e_54)] rfl (by kernel_rfl)
     ·rcases ic H with ⟨h_55, H⟩ | ⟨h_55, H⟩
      ·obtain ⟨r_56, e_57, H⟩ := bdE H
       obtain ⟨r_58, e_59, H⟩ := bdE H
       let v_60 : Int := wr .i64 ((8 : Int) * a_1.Loc)
       replace H := ltD H
       obtain ⟨r_61, e_62, H⟩ := bdE H
       obtain ⟨r_63, e_64, H⟩ := bdE H
       obtain ⟨r_65, e_66, H⟩ := bdE H
       obtain rfl := sj H
       exact emit_writer_piece_7.F.run tb mixed [br h_7, sc_ j_16, br h_20, br h_23, br h_33, br h_39, br h_55, kp [1, 3, 4] [.arr true 79 2 a_3 (a_2.map api_Home.c), .arr true 3 1 a_5.length (a_5.map (cI .i64)), .arr true 74 2 a_6.length (a_6.map emit_jump.c)] (ca [0, 1, 2, 3, 4] (emit_writer_use_8.ev e_57)), kp [1, 3, 4] [.arr true 79 2 a_3 (a_2.map api_Home.c), .arr true 3 1 a_5.length (a_5.map (cI .i64)), .arr true 74 2 a_6.length (a_6.map emit_jump.c)] (ca [0, 1, 2, 3, 4] (emit_writer_bounds_5.ev e_59)), ca [0, 1, 2, 3, 4] (emit_writer_add_12.ev e_62), ca [0, 1, 2, 3, 4] (emit_writer_use_8.ev e_64), ca [0, 1, 2, 3, 4] (emit_writer_add_12.ev e_66)] rfl (by kernel_rfl)
      ·rcases ic H with ⟨h_67, H⟩ | ⟨h_67, H⟩
       ·obtain ⟨r_68, e_69, H⟩ := bdE H
        obtain ⟨r_70, e_71, H⟩ := bdE H
        obtain ⟨r_72, e_73, H⟩ := bdE H
        obtain rfl := sj H
        exact emit_writer_piece_7.F.run tb mixed [br h_7, sc_ j_16, br h_20, br h_23, br h_33, br h_39, br h_55, br h_67, ca [0, 1, 2, 3, 4] (emit_writer_use_8.ev e_69), ca [0, 1, 2, 3, 4] (emit_writer_add_12.ev e_71), ca [0, 1, 2, 3, 4] (emit_writer_call_8.ev e_73)] rfl (by kernel_rfl)
       ·obtain ⟨o_74, e_75, H⟩ := bdE H
        have j_76 : Rq emit_writer_piece_7.F 5 [1, 1, 0, 1, 1, 1, 1, 1, 1, 1, 1, 1, 1, 1, 1, 1, 1, 0, 1] ⟨[(0, .ref 0 0), (3, .ref 5 0), (7, vi a_1.Op), (123, .v (.bool (decide (a_1.Op = 16))))], [.box [.sl 0 1 a_3 0 a_3, sL 2 a_4, sL 3 a_5, sL 4 a_6], .arr true 79 2 a_3 (a_2.map api_Home.c), .arr true 39 5 a_4.length (a_4.map api_Inst.c), .arr true 3 1 a_5.length (a_5.map (cI .i64)), .arr true 74 2 a_6.length (a_6.map emit_jump.c), .box (api_Ins.c a_1)], []⟩ ((fun _ => .normal : Bool → Ex) o_74) ((fun o_74 => ⟨[(0, .ref 0 0), (3, .ref 5 0), (7, vi a_1.Op), (123, .v (.bool o_74))], [.box [.sl 0 1 a_3 0 a_3, sL 2 a_4, sL 3 a_5, sL 4 a_6], .arr true 79 2 a_3 (a_2.map api_Home.c), .arr true 39 5 a_4.length (a_4.map api_Inst.c), .arr true 3 1 a_5.length (a_5.map (cI .i64)), .arr true 74 2 a_6.length (a_6.map emit_jump.c), .box (api_Ins.c a_1)], []⟩ : Bool → ASt) o_74) := by
         clear H
         have H := e_75
         clear e_75
         rcases ic H with ⟨h_77, H⟩ | ⟨h_77, H⟩
         ·obtain rfl := sj H
          exact fn [br h_77]
         ·obtain rfl := sj H
          exact fn [br h_77]
        rcases ie H with ⟨h_78, H⟩ | ⟨h_78, H⟩
        ·obtain ⟨r_79, e_80, H⟩ := bdE H
         obtain ⟨r_81, e_82, H⟩ := bdE H
         obtain ⟨r_83, e_84, H⟩ := bdE H
         rcases ic H with ⟨h_85, H⟩ | ⟨h_85, H⟩
         ·obtain ⟨r_86, e_87, H⟩ := bdE H
          obtain rfl := sj H
          exact emit_writer_piece_7.F.run tb mixed [br h_7, sc_ j_16, br h_20, br h_23, br h_33, br h_39, br h_55, br h_67, sc_ j_76, br h_78, kp [1, 3, 4] [.arr true 79 2 a_3 (a_2.map api_Home.c), .arr true 3 1 a_5.length (a_5.map (cI .i64)), .arr true 74 2 a_6.length (a_6.map emit_jump.c)] (ca [0, 1, 2, 3, 4] (emit_writer_use_8.ev e_80)), kp [1, 3, 4] [.arr true 79 2 a_3 (a_2.map api_Home.c), .arr true 3 1 a_5.length (a_5.map (cI .i64)), .arr true 74 2 a_6.length (a_6.map emit_jump.c)] (ca [0, 1, 2, 3, 4] (emit_writer_use_8.ev e_82)), kp [1, 3, 4] [.arr true 79 2 a_3 (a_2.map api_Home.c), .arr true 3 1 a_5.length (a_5.map (cI .i64)), .arr true 74 2 a_6.length (a_6.map emit_jump.c)] (ca [0, 1, 2, 3, 4] (emit_writer_add_12.ev e_84)), br h_85, ca [0, 1, 2, 3, 4] (emit_writer_leave_4.ev e_87)] rfl (by kernel_rfl)
         ·obtain ⟨r_88, e_89, H⟩ := bdE H
          obtain rfl := sj H
          exact emit_writer_piece_7.F.run tb mixed [br h_7, sc_ j_16, br h_20, br h_23, br h_33, br h_39, br h_55, br h_67, sc_ j_76, br h_78, kp [1, 3, 4] [.arr true 79 2 a_3 (a_2.map api_Home.c), .arr true 3 1 a_5.length (a_5.map (cI .i64)), .arr true 74 2 a_6.length (a_6.map emit_jump.c)] (ca [0, 1, 2, 3, 4] (emit_writer_use_8.ev e_80)), kp [1, 3, 4] [.arr true 79 2 a_3 (a_2.map api_Home.c), .arr true 3 1 a_5.length (a_5.map (cI .i64)), .arr true 74 2 a_6.length (a_6.map emit_jump.c)] (ca [0, 1, 2, 3, 4] (emit_writer_use_8.ev e_82)), kp [1, 3, 4] [.arr true 79 2 a_3 (a_2.map api_Home.c), .arr true 3 1 a_5.length (a_5.map (cI .i64)), .arr true 74 2 a_6.length (a_6.map emit_jump.c)] (ca [0, 1, 2, 3, 4] (emit_writer_add_12.ev e_84)), br h_85, ca [0, 1, 2, 3, 4] (emit_writer_leave_4.ev e_89)] rfl (by kernel_rfl)
        ·rcases ic H with ⟨h_90, H⟩ | ⟨h_90, H⟩
         ·obtain ⟨r_91, e_92, H⟩ := bdE H
          obtain rfl := sj H
          exact emit_writer_piece_7.F.run tb mixed [br h_7, sc_ j_16, br h_20, br h_23, br h_33, br h_39, br h_55, br h_67, sc_ j_76, br h_78, br h_90, ca [0, 1, 2, 3, 4] (emit_writer_call_8.ev e_92)] rfl (by kernel_rfl)
         ·obtain ⟨r_93, e_94, H⟩ := bdE H
          obtain rfl := sj H
          exact emit_writer_piece_7.F.run tb mixed [br h_7, sc_ j_16, br h_20, br h_23, br h_33, br h_39, br h_55, br h_67, sc_ j_76, br h_78, br h_90, ca [0, 1, 2, 3, 4] (emit_writer_atomic_7.ev e_94)] rfl (by kernel_rfl)
noncomputable def emit_Emit.F : FI Try.prog 10 := fi Try.f10 86 Try.call10 Try.func10
def emit_Emit.l2 (s_25 : Unit) : Option (Unit ⊕ Unit) :=
 some (Sum.inr ())
def emit_Emit.l1 (a_3 : List api_Ins) (s_12 : (List api_Inst) × (List Int) × Int) : Option (((List api_Inst) × (List Int) × Int) ⊕ ((List api_Inst) × (List Int))) :=
 if s_12.2.2 < (a_3.length : Int) then (if 0 ≤ s_12.2.2 ∧ s_12.2.2 < (a_3.length : Int) then (letC (gi a_3 s_12.2.2) fun v_18 => if (s_12.2.1.length + ([(s_12.1.length : Int)] : List Int).length) * 8 ≤ 140737488355328 then (letC (s_12.2.1 ++ ([(s_12.1.length : Int)] : List Int)) fun v_20 => (emit_writer_piece_3.m v_18 s_12.1 v_20).bind fun r_21 => letC (wr .i64 (s_12.2.2 + 1)) fun v_23 => some (Sum.inl (r_21, v_20, v_23))) else none) else none) else (some (Sum.inr (s_12.1, s_12.2.1)))
def emit_Emit.l4 (o_32 : (List api_Inst) × (List Int) × (List emit_jump)) (s_45 : (List api_Inst) × Int) : Option (((List api_Inst) × Int) ⊕ (List api_Inst)) :=
 if s_45.2 < (o_32.2.2.length : Int) then (if 0 ≤ s_45.2 ∧ s_45.2 < (o_32.2.2.length : Int) then (letC (gi o_32.2.2 s_45.2) fun v_51 => if 0 ≤ v_51.to_ ∧ v_51.to_ < (o_32.2.1.length : Int) then (letC (gi o_32.2.1 v_51.to_) fun v_53 => letC (wr .i64 (v_53 - v_51.from_)) fun v_54 => if 0 ≤ v_51.from_ ∧ v_51.from_ < (o_32.1.length : Int) then (if 0 ≤ v_51.from_ ∧ v_51.from_ < (s_45.1.length : Int) then (letC (gi s_45.1 v_51.from_) fun v_57 => letC (s_45.1.set v_51.from_.toNat (api_Inst.mk v_57.Op v_57.T v_57.A v_57.B (wr .i64 ((4 : Int) * v_54)))) fun v_58 => letC (wr .i64 (s_45.2 + 1)) fun v_59 => some (Sum.inl (v_58, v_59))) else none) else none) else none) else none) else (some (Sum.inr s_45.1))
def emit_Emit.l3 (a_3 : List api_Ins) (r_8 : (List api_Home) × Nat) (s_31 : (List api_Inst) × (List Int) × (List emit_jump) × Int) : Option (((List api_Inst) × (List Int) × (List emit_jump) × Int) ⊕ ((List api_Inst) × (List Int) × (List emit_jump))) :=
 if s_31.2.2.2 < (a_3.length : Int) then (if 0 ≤ s_31.2.2.2 ∧ s_31.2.2.2 < (a_3.length : Int) then (letC (gi a_3 s_31.2.2.2) fun v_37 => if (s_31.2.1.length + ([(s_31.1.length : Int)] : List Int).length) * 8 ≤ 140737488355328 then (letC (s_31.2.1 ++ ([(s_31.1.length : Int)] : List Int)) fun v_39 => (emit_writer_piece_7.m v_37 r_8.1 r_8.2 s_31.1 v_39 s_31.2.2.1).bind fun r_40 => letC (wr .i64 (s_31.2.2.2 + 1)) fun v_42 => some (Sum.inl (r_40.1, v_39, r_40.2, v_42))) else none) else none) else (some (Sum.inr (s_31.1, s_31.2.1, s_31.2.2.1)))
def emit_Emit.m (a_1 : List api_Loc) (a_2 : Int) (a_3 : List api_Ins) (a_4 : Nat) : Option ((List api_Inst) ⊕ Int ⊕ ((List api_Inst) × Nat)) :=
 (alloc_Homes.m a_3 a_1 a_2).bind fun r_5 => match r_5 with | Sum.inl r_7 => (if r_7 = 0 then ((B.loop (emit_Emit.l1 a_3) ((([] : List api_Inst), ([] : List Int), 0) : (List api_Inst) × (List Int) × Int)).bind fun o_13 => (B.loop emit_Emit.l2 (() : Unit)).bind fun o_26 => some (Sum.inl o_13.1)) else (some (Sum.inr (Sum.inl r_7)))) | Sum.inr (r_8) => ((B.loop (emit_Emit.l3 a_3 r_8) ((([] : List api_Inst), ([] : List Int), ([] : List emit_jump), 0) : (List api_Inst) × (List Int) × (List emit_jump) × Int)).bind fun o_32 => (B.loop (emit_Emit.l4 o_32) ((o_32.1, 0) : (List api_Inst) × Int)).bind fun o_46 => some (Sum.inr (Sum.inr ((o_46, o_32.1.length)))))
noncomputable def emit_Emit.o (a_1 : List api_Loc) (a_2 : Int) (a_3 : List api_Ins) (a_4 : Nat) (r : (List api_Inst) ⊕ Int ⊕ ((List api_Inst) × Nat)) : Out := match r with | Sum.inl r => .ret (.tup [sL 2 r, vi 0]) [.dead, .dead, .arr true 39 5 r.length (r.map api_Inst.c)] [] | Sum.inr (Sum.inl r) => .ret (.tup [.v (.slice none 0 0), vi r]) [.dead] [] | Sum.inr (Sum.inr (r)) => .ret (.tup [.sl 0 3 r.2 0 r.2, vi 0]) [.dead, .dead, .dead, .arr true 39 5 r.2 (r.1.map api_Inst.c)] []
theorem emit_Emit.ev {a_1 : List api_Loc} {a_2 : Int} {a_3 : List api_Ins} {a_4 : Nat} {r : (List api_Inst) ⊕ Int ⊕ ((List api_Inst) × Nat)} (H : emit_Emit.m a_1 a_2 a_3 a_4 = some r) : Ev Try.prog 10 [.sl 0 0 a_4 0 a_4, .ro false 2 a_1.length (a_1.map api_Loc.c), vi a_2] [.arr false 62 8 a_4 (a_3.map api_Ins.c)] [] (emit_Emit.o a_1 a_2 a_3 a_4 r) := by
 unfold emit_Emit.m at H
 obtain ⟨r_5, e_6, H⟩ := bdE H
 rcases r_5 with r_7 | r_8
 ·rcases ic H with ⟨h_9, H⟩ | ⟨h_9, H⟩
  ·obtain ⟨o_13, e_14, H⟩ := bdE H
   have j_15 := Runs.loop (P := Try.prog) (N := emit_Emit.F.N) (m0 := 1) (c := sub_ emit_Emit.F.c [1, 1, 1, 1, 0, 1, 0, 0]) (f := (emit_Emit.l1 a_3)) (St := fun s_12 => ⟨[(10, .ref 1 0), (28, .ro false 8 a_3.length (a_3.map api_Ins.c)), (29, vi (a_3.length : Int)), (30, vi s_12.2.2)], [.dead, .box [.v (.slice none 0 0), sL 2 s_12.1, sL 3 s_12.2.1, .v (.slice none 0 0)], .arr true 39 5 s_12.1.length (s_12.1.map api_Inst.c), .arr true 3 1 s_12.2.1.length (s_12.2.1.map (cI .i64))], []⟩) (xo := (fun _ => (.exit 0) : ((List api_Inst) × (List Int)) → Ex)) (So := (fun o_13 => ⟨[(10, .ref 1 0)], [.dead, .box [.v (.slice none 0 0), sL 2 o_13.1, sL 3 o_13.2, .v (.slice none 0 0)], .arr true 39 5 o_13.1.length (o_13.1.map api_Inst.c), .arr true 3 1 o_13.2.length (o_13.2.map (cI .i64))], []⟩ : ((List api_Inst) × (List Int)) → ASt)) (by intro o; simp) (fun s_12 z H => by
    unfold emit_Emit.l1 at H
    rcases ic H with ⟨h_16, H⟩ | ⟨h_16, H⟩
    ·obtain ⟨g_17, H⟩ := gdE H
     let v_18 : api_Ins := gi a_3 s_12.2.2
     replace H := ltD H
     obtain ⟨g_19, H⟩ := gdE H
     let v_20 : List Int := s_12.2.1 ++ ([(s_12.1.length : Int)] : List Int)
     replace H := ltD H
     obtain ⟨r_21, e_22, H⟩ := bdE H
     let v_23 : Int := wr .i64 (s_12.2.2 + 1)
     replace H := ltD H
     obtain rfl := sj H
     exact fn [br h_16, ix api_Ins.c g_17, ap (cI .i64) 8 false s_12.2.1 ([(s_12.1.length : Int)] : List Int) g_19 (fun h => by cases h), ca [1, 2, 3] (emit_writer_piece_3.ev e_22)]
    ·obtain rfl := sj H
     exact fn [br h_16] (by kernel_rfl)) e_14
   obtain ⟨o_26, e_27, H⟩ := bdE H
   have j_28 := Runs.loop (P := Try.prog) (N := emit_Emit.F.N) (m0 := 1) (c := sub_ emit_Emit.F.c [1, 1, 1, 1, 1, 0, 1, 0, 0]) (f := emit_Emit.l2) (St := fun s_25 => ⟨[(10, .ref 1 0), (55, .v (.slice none 0 0)), (56, vi 0), (57, vi 0)], [.dead, .box [.v (.slice none 0 0), sL 2 o_13.1, sL 3 o_13.2, .v (.slice none 0 0)], .arr true 39 5 o_13.1.length (o_13.1.map api_Inst.c), .arr true 3 1 o_13.2.length (o_13.2.map (cI .i64))], []⟩) (xo := (fun _ => (.exit 2) : Unit → Ex)) (So := (fun o_26 => ⟨[(10, .ref 1 0)], [.dead, .box [.v (.slice none 0 0), sL 2 o_13.1, sL 3 o_13.2, .v (.slice none 0 0)], .arr true 39 5 o_13.1.length (o_13.1.map api_Inst.c), .arr true 3 1 o_13.2.length (o_13.2.map (cI .i64))], []⟩ : Unit → ASt)) (by intro o; simp) (fun s_25 z H => by
    unfold emit_Emit.l2 at H
    obtain rfl := sj H
    exact fn [au] (by kernel_rfl)) e_27
   obtain rfl := sj H
   exact emit_Emit.F.run tb mixed [here 0, frz 0 [0] [], ron 0 none api_Ins.c a_3, ca [] (alloc_Homes.ev e_6), bn h_9, su j_15, adB 1 1 (some 39) 5, adB 1 2 (some 3) 1, su j_28] rfl (by kernel_rfl)
  ·obtain rfl := sj H
   exact emit_Emit.F.run tb mixed [here 0, frz 0 [0] [], ron 0 none api_Ins.c a_3, ca [] (alloc_Homes.ev e_6), bn h_9] rfl (by kernel_rfl)
 ·obtain ⟨o_32, e_33, H⟩ := bdE H
  have j_34 := Runs.loop (P := Try.prog) (N := emit_Emit.F.N) (m0 := 1) (c := sub_ emit_Emit.F.c [1, 1, 1, 1, 0, 1, 0, 0]) (f := (emit_Emit.l3 a_3 r_8)) (St := fun s_31 => ⟨[(10, .ref 2 0), (28, .ro false 8 a_3.length (a_3.map api_Ins.c)), (29, vi (a_3.length : Int)), (30, vi s_31.2.2.2)], [.dead, .arr true 79 2 r_8.2 (r_8.1.map api_Home.c), .box [.sl 0 1 r_8.2 0 r_8.2, sL 3 s_31.1, sL 4 s_31.2.1, sL 5 s_31.2.2.1], .arr true 39 5 s_31.1.length (s_31.1.map api_Inst.c), .arr true 3 1 s_31.2.1.length (s_31.2.1.map (cI .i64)), .arr true 74 2 s_31.2.2.1.length (s_31.2.2.1.map emit_jump.c)], []⟩) (xo := (fun _ => (.exit 0) : ((List api_Inst) × (List Int) × (List emit_jump)) → Ex)) (So := (fun o_32 => ⟨[(10, .ref 2 0)], [.dead, .arr true 79 2 r_8.2 (r_8.1.map api_Home.c), .box [.sl 0 1 r_8.2 0 r_8.2, sL 3 o_32.1, sL 4 o_32.2.1, sL 5 o_32.2.2], .arr true 39 5 o_32.1.length (o_32.1.map api_Inst.c), .arr true 3 1 o_32.2.1.length (o_32.2.1.map (cI .i64)), .arr true 74 2 o_32.2.2.length (o_32.2.2.map emit_jump.c)], []⟩ : ((List api_Inst) × (List Int) × (List emit_jump)) → ASt)) (by intro o; simp) (fun s_31 z H => by
   unfold emit_Emit.l3 at H
   rcases ic H with ⟨h_35, H⟩ | ⟨h_35, H⟩
   ·obtain ⟨g_36, H⟩ := gdE H
    let v_37 : api_Ins := gi a_3 s_31.2.2.2
    replace H := ltD H
    obtain ⟨g_38, H⟩ := gdE H
    let v_39 : List Int := s_31.2.1 ++ ([(s_31.1.length : Int)] : List Int)
    replace H := ltD H
    obtain ⟨r_40, e_41, H⟩ := bdE H
    let v_42 : Int := wr .i64 (s_31.2.2.2 + 1)
    replace H := ltD H
    obtain rfl := sj H
    exact fn [br h_35, ix api_Ins.c g_36, ap (cI .i64) 8 false s_31.2.1 ([(s_31.1.length : Int)] : List Int) g_38 (fun h => by cases h), ca [2, 1, 3, 4, 5] (emit_writer_piece_7.ev e_41)]
   ·obtain rfl := sj H
    exact fn [br h_35] (by kernel_rfl)) e_33
  obtain ⟨o_46, e_47, H⟩ := bdE H
  have j_48 := Runs.loop (P := Try.prog) (N := emit_Emit.F.N) (m0 := 1) (c := sub_ emit_Emit.F.c [1, 1, 1, 1, 1, 0, 1, 0, 0]) (f := (emit_Emit.l4 o_32)) (St := fun s_45 => ⟨[(10, .ref 2 0), (55, sL 5 o_32.2.2), (56, vi (o_32.2.2.length : Int)), (57, vi s_45.2)], [.dead, .arr true 79 2 r_8.2 (r_8.1.map api_Home.c), .box [.sl 0 1 r_8.2 0 r_8.2, sL 3 o_32.1, sL 4 o_32.2.1, sL 5 o_32.2.2], .arr true 39 5 o_32.1.length (s_45.1.map api_Inst.c), .arr true 3 1 o_32.2.1.length (o_32.2.1.map (cI .i64)), .arr true 74 2 o_32.2.2.length (o_32.2.2.map emit_jump.c)], []⟩) (xo := (fun _ => (.exit 2) : (List api_Inst) → Ex)) (So := (fun o_46 => ⟨[(10, .ref 2 0)], [.dead, .arr true 79 2 r_8.2 (r_8.1.map api_Home.c), .box [.sl 0 1 r_8.2 0 r_8.2, sL 3 o_32.1, sL 4 o_32.2.1, sL 5 o_32.2.2], .arr true 39 5 o_32.1.length (o_46.map api_Inst.c), .arr true 3 1 o_32.2.1.length (o_32.2.1.map (cI .i64)), .arr true 74 2 o_32.2.2.length (o_32.2.2.map emit_jump.c)], []⟩ : (List api_Inst) → ASt)) (by intro o; simp) (fun s_45 z H => by
   unfold emit_Emit.l4 at H
   rcases ic H with ⟨h_49, H⟩ | ⟨h_49, H⟩
   ·obtain ⟨g_50, H⟩ := gdE H
    let v_51 : emit_jump := gi o_32.2.2 s_45.2
    replace H := ltD H
    obtain ⟨g_52, H⟩ := gdE H
    let v_53 : Int := gi o_32.2.1 v_51.to_
    replace H := ltD H
    let v_54 : Int := wr .i64 (v_53 - v_51.from_)
    replace H := ltD H
    obtain ⟨g_55, H⟩ := gdE H
    obtain ⟨g_56, H⟩ := gdE H
    let v_57 : api_Inst := gi s_45.1 v_51.from_
    replace H := ltD H
    let v_58 : List api_Inst := s_45.1.set v_51.from_.toNat (api_Inst.mk v_57.Op v_57.T v_57.A v_57.B (wr .i64 ((4 : Int) * v_54)))
    replace H := ltD H
    let v_59 : Int := wr .i64 (s_45.2 + 1)
    replace H := ltD H
    obtain rfl := sj H
    exact fn [br h_49, pf g_50, el emit_jump.c g_50, pf g_52, el (cI .i64) g_52, pf g_55, up api_Inst.c 4 [vi (wr .i64 ((4 : Int) * v_54))] (api_Inst.mk v_57.Op v_57.T v_57.A v_57.B (wr .i64 ((4 : Int) * v_54))) g_56 (by kernel_rfl)]
   ·obtain rfl := sj H
    exact fn [br h_49] (by kernel_rfl)) e_47
  obtain rfl := sj H
  exact emit_Emit.F.run tb mixed [here 0, frz 0 [0] [], ron 0 none api_Ins.c a_3, ca [] (alloc_Homes.ev e_6), au, su j_34, adB 2 1 (some 39) 5, adB 2 2 (some 3) 1, adB 2 3 (some 74) 2, su j_48] rfl (by kernel_rfl)
def emit_Emit.k2 (s_25 : Unit) : Option (Unit ⊕ Unit) :=
 some (Sum.inr ())
theorem emit_Emit.k2_le (s_25 : Unit) : OLe (emit_Emit.k2 s_25) (emit_Emit.l2 s_25) := by
 unfold emit_Emit.k2 emit_Emit.l2
 repeat' with_reducible first | exact alloc_Homes.k_le .. | refine OLe.lt (fun _ => ?_) | refine OLe.lp (fun _ => ?_) | refine OLe.bind ?_ (fun _ => ?_) | refine OLe.ite ?_ ?_ | exact OLe.rfl' | split
def emit_Emit.k1 (a_3 : List api_Ins) (s_12 : (List api_Inst) × (List Int) × Int) : Option (((List api_Inst) × (List Int) × Int) ⊕ ((List api_Inst) × (List Int))) :=
 if s_12.2.2 < (a_3.length : Int) then (if 0 ≤ s_12.2.2 ∧ s_12.2.2 < (a_3.length : Int) then (letK (gi a_3 s_12.2.2) fun v_18 => if (s_12.2.1.length + ([(s_12.1.length : Int)] : List Int).length) * 8 ≤ 140737488355328 then (letK (s_12.2.1 ++ ([(s_12.1.length : Int)] : List Int)) fun v_20 => (emit_writer_piece_3.m v_18 s_12.1 v_20).bind fun r_21 => letK (wr .i64 (s_12.2.2 + 1)) fun v_23 => some (Sum.inl (r_21, v_20, v_23))) else none) else none) else (some (Sum.inr (s_12.1, s_12.2.1)))
theorem emit_Emit.k1_le (a_3 : List api_Ins) (s_12 : (List api_Inst) × (List Int) × Int) : OLe (emit_Emit.k1 a_3 s_12) (emit_Emit.l1 a_3 s_12) := by
 unfold emit_Emit.k1 emit_Emit.l1
 repeat' with_reducible first | exact emit_Emit.k2_le .. | exact alloc_Homes.k_le .. | refine OLe.lt (fun _ => ?_) | refine OLe.lp (fun _ => ?_) | refine OLe.bind ?_ (fun _ => ?_) | refine OLe.ite ?_ ?_ | exact OLe.rfl' | split
def emit_Emit.k4 (o_32 : (List api_Inst) × (List Int) × (List emit_jump)) (s_45 : (List api_Inst) × Int) : Option (((List api_Inst) × Int) ⊕ (List api_Inst)) :=
 if s_45.2 < (o_32.2.2.length : Int) then (if 0 ≤ s_45.2 ∧ s_45.2 < (o_32.2.2.length : Int) then (letK (gi o_32.2.2 s_45.2) fun v_51 => if 0 ≤ v_51.to_ ∧ v_51.to_ < (o_32.2.1.length : Int) then (letK (gi o_32.2.1 v_51.to_) fun v_53 => letK (wr .i64 (v_53 - v_51.from_)) fun v_54 => if 0 ≤ v_51.from_ ∧ v_51.from_ < (o_32.1.length : Int) then (if 0 ≤ v_51.from_ ∧ v_51.from_ < (s_45.1.length : Int) then (letK (gi s_45.1 v_51.from_) fun v_57 => letK (s_45.1.set v_51.from_.toNat (api_Inst.mk v_57.Op v_57.T v_57.A v_57.B (wr .i64 ((4 : Int) * v_54)))) fun v_58 => letK (wr .i64 (s_45.2 + 1)) fun v_59 => some (Sum.inl (v_58, v_59))) else none) else none) else none) else none) else (some (Sum.inr s_45.1))
theorem emit_Emit.k4_le (o_32 : (List api_Inst) × (List Int) × (List emit_jump)) (s_45 : (List api_Inst) × Int) : OLe (emit_Emit.k4 o_32 s_45) (emit_Emit.l4 o_32 s_45) := by
 unfold emit_Emit.k4 emit_Emit.l4
 repeat' with_reducible first | exact emit_Emit.k2_le .. | exact emit_Emit.k1_le .. | exact alloc_Homes.k_le .. | refine OLe.lt (fun _ => ?_) | refine OLe.lp (fun _ => ?_) | refine OLe.bind ?_ (fun _ => ?_) | refine OLe.ite ?_ ?_ | exact OLe.rfl' | split
def emit_Emit.k3 (a_3 : List api_Ins) (r_8 : (List api_Home) × Nat) (s_31 : (List api_Inst) × (List Int) × (List emit_jump) × Int) : Option (((List api_Inst) × (List Int) × (List emit_jump) × Int) ⊕ ((List api_Inst) × (List Int) × (List emit_jump))) :=
 if s_31.2.2.2 < (a_3.length : Int) then (if 0 ≤ s_31.2.2.2 ∧ s_31.2.2.2 < (a_3.length : Int) then (letK (gi a_3 s_31.2.2.2) fun v_37 => if (s_31.2.1.length + ([(s_31.1.length : Int)] : List Int).length) * 8 ≤ 140737488355328 then (letK (s_31.2.1 ++ ([(s_31.1.length : Int)] : List Int)) fun v_39 => (emit_writer_piece_7.m v_37 r_8.1 r_8.2 s_31.1 v_39 s_31.2.2.1).bind fun r_40 => letK (wr .i64 (s_31.2.2.2 + 1)) fun v_42 => some (Sum.inl (r_40.1, v_39, r_40.2, v_42))) else none) else none) else (some (Sum.inr (s_31.1, s_31.2.1, s_31.2.2.1)))
theorem emit_Emit.k3_le (a_3 : List api_Ins) (r_8 : (List api_Home) × Nat) (s_31 : (List api_Inst) × (List Int) × (List emit_jump) × Int) : OLe (emit_Emit.k3 a_3 r_8 s_31) (emit_Emit.l3 a_3 r_8 s_31) := by
 unfold emit_Emit.k3 emit_Emit.l3
 repeat' with_reducible first | exact emit_Emit.k2_le .. | exact emit_Emit.k1_le .. | exact emit_Emit.k4_le .. | exact alloc_Homes.k_le .. | refine OLe.lt (fun _ => ?_) | refine OLe.lp (fun _ => ?_) | refine OLe.bind ?_ (fun _ => ?_) | refine OLe.ite ?_ ?_ | exact OLe.rfl' | split
def emit_Emit.k (a_1 : List api_Loc) (a_2 : Int) (a_3 : List api_Ins) (a_4 : Nat) : Option ((List api_Inst) ⊕ Int ⊕ ((List api_Inst) × Nat)) :=
 (alloc_Homes.k a_3 a_1 a_2).bind fun r_5 => match r_5 with | Sum.inl r_7 => (if r_7 = 0 then ((lpK (emit_Emit.k1 a_3) ((([] : List api_Inst), ([] : List Int), 0) : (List api_Inst) × (List Int) × Int)).bind fun o_13 => (lpK emit_Emit.k2 (() : Unit)).bind fun o_26 => some (Sum.inl o_13.1)) else (some (Sum.inr (Sum.inl r_7)))) | Sum.inr (r_8) => ((lpK (emit_Emit.k3 a_3 r_8) ((([] : List api_Inst), ([] : List Int), ([] : List emit_jump), 0) : (List api_Inst) × (List Int) × (List emit_jump) × Int)).bind fun o_32 => (lpK (emit_Emit.k4 o_32) ((o_32.1, 0) : (List api_Inst) × Int)).bind fun o_46 => some (Sum.inr (Sum.inr ((o_46, o_32.1.length)))))
theorem emit_Emit.k_le (a_1 : List api_Loc) (a_2 : Int) (a_3 : List api_Ins) (a_4 : Nat) : OLe (emit_Emit.k a_1 a_2 a_3 a_4) (emit_Emit.m a_1 a_2 a_3 a_4) := by
 unfold emit_Emit.k emit_Emit.m
 repeat' with_reducible first | exact emit_Emit.k2_le .. | exact emit_Emit.k1_le .. | exact emit_Emit.k4_le .. | exact emit_Emit.k3_le .. | exact alloc_Homes.k_le .. | refine OLe.lt (fun _ => ?_) | refine OLe.lp (fun _ => ?_) | refine OLe.bind ?_ (fun _ => ?_) | refine OLe.ite ?_ ?_ | exact OLe.rfl' | split
 all_goals (exfalso; simp_all)
noncomputable def isa_formOf.F : FI Try.prog 27 := fi Try.f27 51 Try.call27 Try.func27
def isa_formOf.m (a_1 : Int) : Int × Int :=
 if a_1 = 1 then ((1, 939524096)) else (if a_1 = 2 then ((1, 1006632960)) else (if a_1 = 3 then ((2, 1610612736)) else (if a_1 = 4 then ((2, 1677721600)) else (if a_1 = 5 then ((3, 2013265924)) else (if a_1 = 6 then ((4, 2080375316)) else (if a_1 = 7 then ((4, 2080374864)) else (if a_1 = 8 then ((4, 2080375250)) else (if a_1 = 9 then ((4, 2080375762)) else (if a_1 = 12 then ((4, 2080374826)) else (if a_1 = 13 then ((4, 2080375082)) else (if a_1 = 14 then ((4, 2080374952)) else (if a_1 = 15 then ((4, 2080375213)) else (if a_1 = 10 then ((5, 3892314112)) else (if a_1 = 11 then ((5, 4160749568)) else (if a_1 = 16 then ((6, 2082471936)) else (if a_1 = 17 then ((7, 740294656)) else (if a_1 = 18 then ((8, 1073741824)) else (if a_1 = 19 then ((9, 1207959552)) else (if a_1 = 20 then ((10, 2080375980)) else (if a_1 = 21 then ((10, 2082473132)) else (if a_1 = 22 then ((10, 1275068716)) else (if a_1 = 23 then ((10, 1140850690)) else ((0, 0))))))))))))))))))))))))
noncomputable def isa_formOf.o (a_1 : Int) (r : Int × Int) : Out := .ret (.tup [vi r.1, .v (.int .u32 r.2)]) [] []
theorem isa_formOf.ev {a_1 : Int} {r : Int × Int} (H : isa_formOf.m a_1 = r) : Ev Try.prog 27 [vi a_1] [] [] (isa_formOf.o a_1 r) := by
 unfold isa_formOf.m at H
 rcases ic H with ⟨h_2, H⟩ | ⟨h_2, H⟩
 ·subst H
  exact isa_formOf.F.run tb mixed [br h_2] rfl (by kernel_rfl)
 ·rcases ic H with ⟨h_3, H⟩ | ⟨h_3, H⟩
  ·subst H
   exact isa_formOf.F.run tb mixed [br h_2, br h_3] rfl (by kernel_rfl)
  ·rcases ic H with ⟨h_4, H⟩ | ⟨h_4, H⟩
   ·subst H
    exact isa_formOf.F.run tb mixed [br h_2, br h_3, br h_4] rfl (by kernel_rfl)
   ·rcases ic H with ⟨h_5, H⟩ | ⟨h_5, H⟩
    ·subst H
     exact isa_formOf.F.run tb mixed [br h_2, br h_3, br h_4, br h_5] rfl (by kernel_rfl)
    ·rcases ic H with ⟨h_6, H⟩ | ⟨h_6, H⟩
     ·subst H
      exact isa_formOf.F.run tb mixed [br h_2, br h_3, br h_4, br h_5, br h_6] rfl (by kernel_rfl)
     ·rcases ic H with ⟨h_7, H⟩ | ⟨h_7, H⟩
      ·subst H
       exact isa_formOf.F.run tb mixed [br h_2, br h_3, br h_4, br h_5, br h_6, br h_7] rfl (by kernel_rfl)
      ·rcases ic H with ⟨h_8, H⟩ | ⟨h_8, H⟩
       ·subst H
        exact isa_formOf.F.run tb mixed [br h_2, br h_3, br h_4, br h_5, br h_6, br h_7, br h_8] rfl (by kernel_rfl)
       ·rcases ic H with ⟨h_9, H⟩ | ⟨h_9, H⟩
        ·subst H
         exact isa_formOf.F.run tb mixed [br h_2, br h_3, br h_4, br h_5, br h_6, br h_7, br h_8, br h_9] rfl (by kernel_rfl)
        ·rcases ic H with ⟨h_10, H⟩ | ⟨h_10, H⟩
         ·subst H
          exact isa_formOf.F.run tb mixed [br h_2, br h_3, br h_4, br h_5, br h_6, br h_7, br h_8, br h_9, br h_10] rfl (by kernel_rfl)
         ·rcases ic H with ⟨h_11, H⟩ | ⟨h_11, H⟩
          ·subst H
           exact isa_formOf.F.run tb mixed [br h_2, br h_3, br h_4, br h_5, br h_6, br h_7, br h_8, br h_9, br h_10, br h_11] rfl (by kernel_rfl)
          ·rcases ic H with ⟨h_12, H⟩ | ⟨h_12, H⟩
           ·subst H
            exact isa_formOf.F.run tb mixed [br h_2, br h_3, br h_4, br h_5, br h_6, br h_7, br h_8, br h_9, br h_10, br h_11, br h_12] rfl (by kernel_rfl)
           ·rcases ic H with ⟨h_13, H⟩ | ⟨h_13, H⟩
            ·subst H
             exact isa_formOf.F.run tb mixed [br h_2, br h_3, br h_4, br h_5, br h_6, br h_7, br h_8, br h_9, br h_10, br h_11, br h_12, br h_13] rfl (by kernel_rfl)
            ·rcases ic H with ⟨h_14, H⟩ | ⟨h_14, H⟩
             ·subst H
              exact isa_formOf.F.run tb mixed [br h_2, br h_3, br h_4, br h_5, br h_6, br h_7, br h_8, br h_9, br h_10, br h_11, br h_12, br h_13, br h_14] rfl (by kernel_rfl)
             ·rcases ic H with ⟨h_15, H⟩ | ⟨h_15, H⟩
              ·subst H
               exact isa_formOf.F.run tb mixed [br h_2, br h_3, br h_4, br h_5, br h_6, br h_7, br h_8, br h_9, br h_10, br h_11, br h_12, br h_13, br h_14, br h_15] rfl (by kernel_rfl)
              ·rcases ic H with ⟨h_16, H⟩ | ⟨h_16, H⟩
               ·subst H
                exact isa_formOf.F.run tb mixed [br h_2, br h_3, br h_4, br h_5, br h_6, br h_7, br h_8, br h_9, br h_10, br h_11, br h_12, br h_13, br h_14, br h_15, br h_16] rfl (by kernel_rfl)
               ·rcases ic H with ⟨h_17, H⟩ | ⟨h_17, H⟩
                ·subst H
                 exact isa_formOf.F.run tb mixed [br h_2, br h_3, br h_4, br h_5, br h_6, br h_7, br h_8, br h_9, br h_10, br h_11, br h_12, br h_13, br h_14, br h_15, br h_16, br h_17] rfl (by kernel_rfl)
                ·rcases ic H with ⟨h_18, H⟩ | ⟨h_18, H⟩
                 ·subst H
                  exact isa_formOf.F.run tb mixed [br h_2, br h_3, br h_4, br h_5, br h_6, br h_7, br h_8, br h_9, br h_10, br h_11, br h_12, br h_13, br h_14, br h_15, br h_16, br h_17, br h_18] rfl (by kernel_rfl)
                 ·rcases ic H with ⟨h_19, H⟩ | ⟨h_19, H⟩
                  ·subst H
                   exact isa_formOf.F.run tb mixed [br h_2, br h_3, br h_4, br h_5, br h_6, br h_7, br h_8, br h_9, br h_10, br h_11, br h_12, br h_13, br h_14, br h_15, br h_16, br h_17, br h_18, br h_19] rfl (by kernel_rfl)
                  ·rcases ic H with ⟨h_20, H⟩ | ⟨h_20, H⟩
                   ·subst H
                    exact isa_formOf.F.run tb mixed [br h_2, br h_3, br h_4, br h_5, br h_6, br h_7, br h_8, br h_9, br h_10, br h_11, br h_12, br h_13, br h_14, br h_15, br h_16, br h_17, br h_18, br h_19, br h_20] rfl (by kernel_rfl)
                   ·rcases ic H with ⟨h_21, H⟩ | ⟨h_21, H⟩
                    ·subst H
                     exact isa_formOf.F.run tb mixed [br h_2, br h_3, br h_4, br h_5, br h_6, br h_7, br h_8, br h_9, br h_10, br h_11, br h_12, br h_13, br h_14, br h_15, br h_16, br h_17, br h_18, br h_19, br h_20, br h_21] rfl (by kernel_rfl)
                    ·rcases ic H with ⟨h_22, H⟩ | ⟨h_22, H⟩
                     ·subst H
                      exact isa_formOf.F.run tb mixed [br h_2, br h_3, br h_4, br h_5, br h_6, br h_7, br h_8, br h_9, br h_10, br h_11, br h_12, br h_13, br h_14, br h_15, br h_16, br h_17, br h_18, br h_19, br h_20, br h_21, br h_22] rfl (by kernel_rfl)
                     ·rcases ic H with ⟨h_23, H⟩ | ⟨h_23, H⟩
                      ·subst H
                       exact isa_formOf.F.run tb mixed [br h_2, br h_3, br h_4, br h_5, br h_6, br h_7, br h_8, br h_9, br h_10, br h_11, br h_12, br h_13, br h_14, br h_15, br h_16, br h_17, br h_18, br h_19, br h_20, br h_21, br h_22, br h_23] rfl (by kernel_rfl)
                      ·rcases ic H with ⟨h_24, H⟩ | ⟨h_24, H⟩
                       ·subst H
                        exact isa_formOf.F.run tb mixed [br h_2, br h_3, br h_4, br h_5, br h_6, br h_7, br h_8, br h_9, br h_10, br h_11, br h_12, br h_13, br h_14, br h_15, br h_16, br h_17, br h_18, br h_19, br h_20, br h_21, br h_22, br h_23, br h_24] rfl (by kernel_rfl)
                       ·subst H
                        exact isa_formOf.F.run tb mixed [br h_2, br h_3, br h_4, br h_5, br h_6, br h_7, br h_8, br h_9, br h_10, br h_11, br h_12, br h_13, br h_14, br h_15, br h_16, br h_17, br h_18, br h_19, br h_20, br h_21, br h_22, br h_23, br h_24] rfl (by kernel_rfl)
noncomputable def isa_used.F : FI Try.prog 61 := fi Try.f61 27 Try.call61 Try.func61
def isa_used.m (a_1 : Int) : Bool × Bool × Bool × Int × Int × Int :=
 if a_1 = 1 then ((true, true, false, (-32768), 32767, 1)) else (if a_1 = 2 then ((true, true, false, 0, 65535, 1)) else (if a_1 = 3 then ((true, true, false, 0, 63, 1)) else (if a_1 = 4 then ((true, true, true, 0, 0, 1)) else (if a_1 = 5 then ((true, true, false, (-32768), 32764, 4)) else (if a_1 = 6 then ((false, true, true, 0, 0, 1)) else (if a_1 = 7 then ((false, true, false, (-32768), 32767, 1)) else (if a_1 = 8 then ((true, false, false, (-32768), 32764, 4)) else (if a_1 = 9 then ((false, false, false, (-33554432), 33554428, 4)) else ((false, false, false, 0, 0, 1))))))))))
noncomputable def isa_used.o (a_1 : Int) (r : Bool × Bool × Bool × Int × Int × Int) : Out := .ret (.tup [.v (.bool r.1), .v (.bool r.2.1), .v (.bool r.2.2.1), vi r.2.2.2.1, vi r.2.2.2.2.1, vi r.2.2.2.2.2]) [] []
theorem isa_used.ev {a_1 : Int} {r : Bool × Bool × Bool × Int × Int × Int} (H : isa_used.m a_1 = r) : Ev Try.prog 61 [vi a_1] [] [] (isa_used.o a_1 r) := by
 unfold isa_used.m at H
 rcases ic H with ⟨h_2, H⟩ | ⟨h_2, H⟩
 ·subst H
  exact isa_used.F.run tb mixed [br h_2] rfl (by kernel_rfl)
 ·rcases ic H with ⟨h_3, H⟩ | ⟨h_3, H⟩
  ·subst H
   exact isa_used.F.run tb mixed [br h_2, br h_3] rfl (by kernel_rfl)
  ·rcases ic H with ⟨h_4, H⟩ | ⟨h_4, H⟩
   ·subst H
    exact isa_used.F.run tb mixed [br h_2, br h_3, br h_4] rfl (by kernel_rfl)
   ·rcases ic H with ⟨h_5, H⟩ | ⟨h_5, H⟩
    ·subst H
     exact isa_used.F.run tb mixed [br h_2, br h_3, br h_4, br h_5] rfl (by kernel_rfl)
    ·rcases ic H with ⟨h_6, H⟩ | ⟨h_6, H⟩
     ·subst H
      exact isa_used.F.run tb mixed [br h_2, br h_3, br h_4, br h_5, br h_6] rfl (by kernel_rfl)
     ·rcases ic H with ⟨h_7, H⟩ | ⟨h_7, H⟩
      ·subst H
       exact isa_used.F.run tb mixed [br h_2, br h_3, br h_4, br h_5, br h_6, br h_7] rfl (by kernel_rfl)
      ·rcases ic H with ⟨h_8, H⟩ | ⟨h_8, H⟩
       ·subst H
        exact isa_used.F.run tb mixed [br h_2, br h_3, br h_4, br h_5, br h_6, br h_7, br h_8] rfl (by kernel_rfl)
       ·rcases ic H with ⟨h_9, H⟩ | ⟨h_9, H⟩
        ·subst H
         exact isa_used.F.run tb mixed [br h_2, br h_3, br h_4, br h_5, br h_6, br h_7, br h_8, br h_9] rfl (by kernel_rfl)
        ·rcases ic H with ⟨h_10, H⟩ | ⟨h_10, H⟩
         ·subst H
          exact isa_used.F.run tb mixed [br h_2, br h_3, br h_4, br h_5, br h_6, br h_7, br h_8, br h_9, br h_10] rfl (by kernel_rfl)
         ·subst H
          exact isa_used.F.run tb mixed [br h_2, br h_3, br h_4, br h_5, br h_6, br h_7, br h_8, br h_9, br h_10] rfl (by kernel_rfl)
noncomputable def isa_reg.F : FI Try.prog 62 := fi Try.f62 9 Try.call62 Try.func62
def isa_reg.m (a_1 : Int) : Bool :=
 if a_1 ≥ 0 then ((decide (a_1 < 32))) else (false)
noncomputable def isa_reg.o (a_1 : Int) (r : Bool) : Out := .ret (.v (.bool r)) [] []
theorem isa_reg.ev {a_1 : Int} {r : Bool} (H : isa_reg.m a_1 = r) : Ev Try.prog 62 [vi a_1] [] [] (isa_reg.o a_1 r) := by
 unfold isa_reg.m at H
 rcases ic H with ⟨h_2, H⟩ | ⟨h_2, H⟩
 ·subst H
  exact isa_reg.F.run tb mixed [br h_2, pT] rfl (by kernel_rfl)
 ·subst H
  exact isa_reg.F.run tb mixed [br h_2, pF] rfl (by kernel_rfl)
noncomputable def isa_check.F : FI Try.prog 28 := fi Try.f28 115 Try.call28 Try.func28
def isa_check.m (a_1 : Int) (a_2 : api_Inst) : Option (Int) :=
 letC (isa_used.m a_1) fun r_3 => (if a_1 = 0 then (some (true : Bool)) else (if r_3.1 = true then (if r_3.2.1 = true then (if r_3.2.2.1 = true then (if r_3.2.2.2.1 = r_3.2.2.2.2.1 then (some ((!(decide (a_2.Imm = 0))) : Bool)) else (some (false : Bool))) else (if a_2.B = 0 then (if r_3.2.2.2.1 = r_3.2.2.2.2.1 then (some ((!(decide (a_2.Imm = 0))) : Bool)) else (some (false : Bool))) else (some (true : Bool)))) else (if a_2.A = 0 then (if r_3.2.2.1 = true then (if r_3.2.2.2.1 = r_3.2.2.2.2.1 then (some ((!(decide (a_2.Imm = 0))) : Bool)) else (some (false : Bool))) else (if a_2.B = 0 then (if r_3.2.2.2.1 = r_3.2.2.2.2.1 then (some ((!(decide (a_2.Imm = 0))) : Bool)) else (some (false : Bool))) else (some (true : Bool)))) else (some (true : Bool)))) else (if a_2.T = 0 then (if r_3.2.1 = true then (if r_3.2.2.1 = true then (if r_3.2.2.2.1 = r_3.2.2.2.2.1 then (some ((!(decide (a_2.Imm = 0))) : Bool)) else (some (false : Bool))) else (if a_2.B = 0 then (if r_3.2.2.2.1 = r_3.2.2.2.2.1 then (some ((!(decide (a_2.Imm = 0))) : Bool)) else (some (false : Bool))) else (some (true : Bool)))) else (if a_2.A = 0 then (if r_3.2.2.1 = true then (if r_3.2.2.2.1 = r_3.2.2.2.2.1 then (some ((!(decide (a_2.Imm = 0))) : Bool)) else (some (false : Bool))) else (if a_2.B = 0 then (if r_3.2.2.2.1 = r_3.2.2.2.2.1 then (some ((!(decide (a_2.Imm = 0))) : Bool)) else (some (false : Bool))) else (some (true : Bool)))) else (some (true : Bool)))) else (some (true : Bool)))) : Option Bool).bind fun o_5 => if o_5 = true then (some 3) else ((if a_1 = 8 then (if a_2.T < 0 then (some (true : Bool)) else (if a_2.T > 3 then (some (true : Bool)) else (letC (isa_reg.m a_2.A) fun r_38 => if r_38 = true then (letC (isa_reg.m a_2.B) fun r_41 => if r_41 = true then (if a_2.Imm < r_3.2.2.2.1 then (some (true : Bool)) else (if a_2.Imm > r_3.2.2.2.2.1 then (some (true : Bool)) else (if r_3.2.2.2.2.2 ≠ 0 then (letC (Int.tmod a_2.Imm r_3.2.2.2.2.2) fun v_47 => some ((!(decide (v_47 = 0))) : Bool)) else none))) else (some (true : Bool))) else (some (true : Bool))))) else (letC (isa_reg.m a_2.T) fun r_48 => if r_48 = true then (letC (isa_reg.m a_2.A) fun r_51 => if r_51 = true then (letC (isa_reg.m a_2.B) fun r_54 => if r_54 = true then (if a_2.Imm < r_3.2.2.2.1 then (some (true : Bool)) else (if a_2.Imm > r_3.2.2.2.2.1 then (some (true : Bool)) else (if r_3.2.2.2.2.2 ≠ 0 then (letC (Int.tmod a_2.Imm r_3.2.2.2.2.2) fun v_60 => some ((!(decide (v_60 = 0))) : Bool)) else none))) else (some (true : Bool))) else (some (true : Bool))) else (some (true : Bool))) : Option Bool).bind fun o_32 => if o_32 = true then (some 2) else (some 0))
noncomputable def isa_check.o (a_1 : Int) (a_2 : api_Inst) (r : Int) : Out := .ret (vi r) [] []
theorem isa_check.ev {a_1 : Int} {a_2 : api_Inst} {r : Int} (H : isa_check.m a_1 a_2 = some r) : Ev Try.prog 28 [vi a_1, .agg (api_Inst.c a_2)] [] [] (isa_check.o a_1 a_2 r) := by
 unfold isa_check.m at H
 obtain ⟨r_3, e_4, H⟩ := ltE H
 obtain ⟨o_5, e_6, H⟩ := bdE H
 have j_7 : Rq isa_check.F 0 [1, 1, 1, 0, 0] ⟨[(0, vi a_1), (3, .ref 0 0), (5, .v (.bool r_3.1)), (6, .v (.bool r_3.2.1)), (7, .v (.bool r_3.2.2.1)), (8, vi r_3.2.2.2.1), (9, vi r_3.2.2.2.2.1), (10, vi r_3.2.2.2.2.2), (11, .v (.bool (!(decide (r_3.2.2.2.1 = r_3.2.2.2.2.1)))))], [.box (api_Inst.c a_2)], []⟩ ((fun _ => .normal : Bool → Ex) o_5) ((fun o_5 => ⟨[(0, vi a_1), (3, .ref 0 0), (8, vi r_3.2.2.2.1), (9, vi r_3.2.2.2.2.1), (10, vi r_3.2.2.2.2.2), (61, .v (.bool o_5))], [.box (api_Inst.c a_2)], []⟩ : Bool → ASt) o_5) := by
  clear H
  have H := e_6
  clear e_6
  rcases ic H with ⟨h_8, H⟩ | ⟨h_8, H⟩
  ·obtain rfl := sj H
   exact fn [br h_8, pT, au, pT, au, pT, au, pT]
  ·rcases ie H with ⟨h_9, H⟩ | ⟨h_9, H⟩
   ·rcases ie H with ⟨h_10, H⟩ | ⟨h_10, H⟩
    ·rcases ie H with ⟨h_11, H⟩ | ⟨h_11, H⟩
     ·rcases ic H with ⟨h_12, H⟩ | ⟨h_12, H⟩
      ·obtain rfl := sj H
       exact fn [br h_8, bn h_9, pF, pF, au, bn h_10, pF, pF, au, bn h_11, pF, pF, au, bn (congrArg not h_12), pT, pF]
      ·obtain rfl := sj H
       exact fn [br h_8, bn h_9, pF, pF, au, bn h_10, pF, pF, au, bn h_11, pF, pF, au, bn (congrArg not h_12), pF, pF]
     ·rcases ic H with ⟨h_13, H⟩ | ⟨h_13, H⟩
      ·rcases ic H with ⟨h_14, H⟩ | ⟨h_14, H⟩
       ·obtain rfl := sj H
        exact fn [br h_8, bn h_9, pF, pF, au, bn h_10, pF, pF, au, bn h_11, pT, pF, bn h_13, bn (congrArg not h_14), pT, pF]
       ·obtain rfl := sj H
        exact fn [br h_8, bn h_9, pF, pF, au, bn h_10, pF, pF, au, bn h_11, pT, pF, bn h_13, bn (congrArg not h_14), pF, pF]
      ·obtain rfl := sj H
       exact fn [br h_8, bn h_9, pF, pF, au, bn h_10, pF, pF, au, bn h_11, pT, pF, bn h_13, pT]
    ·rcases ic H with ⟨h_15, H⟩ | ⟨h_15, H⟩
     ·rcases ie H with ⟨h_16, H⟩ | ⟨h_16, H⟩
      ·rcases ic H with ⟨h_17, H⟩ | ⟨h_17, H⟩
       ·obtain rfl := sj H
        exact fn [br h_8, bn h_9, pF, pF, au, bn h_10, pT, pF, bn h_15, bn h_16, pF, pF, au, bn (congrArg not h_17), pT, pF]
       ·obtain rfl := sj H
        exact fn [br h_8, bn h_9, pF, pF, au, bn h_10, pT, pF, bn h_15, bn h_16, pF, pF, au, bn (congrArg not h_17), pF, pF]
      ·rcases ic H with ⟨h_18, H⟩ | ⟨h_18, H⟩
       ·rcases ic H with ⟨h_19, H⟩ | ⟨h_19, H⟩
        ·obtain rfl := sj H
         exact fn [br h_8, bn h_9, pF, pF, au, bn h_10, pT, pF, bn h_15, bn h_16, pT, pF, bn h_18, bn (congrArg not h_19), pT, pF]
        ·obtain rfl := sj H
         exact fn [br h_8, bn h_9, pF, pF, au, bn h_10, pT, pF, bn h_15, bn h_16, pT, pF, bn h_18, bn (congrArg not h_19), pF, pF]
       ·obtain rfl := sj H
        exact fn [br h_8, bn h_9, pF, pF, au, bn h_10, pT, pF, bn h_15, bn h_16, pT, pF, bn h_18, pT]
     ·obtain rfl := sj H
      exact fn [br h_8, bn h_9, pF, pF, au, bn h_10, pT, pF, bn h_15, pT, au, pT]
   ·rcases ic H with ⟨h_20, H⟩ | ⟨h_20, H⟩
    ·rcases ie H with ⟨h_21, H⟩ | ⟨h_21, H⟩
     ·rcases ie H with ⟨h_22, H⟩ | ⟨h_22, H⟩
      ·rcases ic H with ⟨h_23, H⟩ | ⟨h_23, H⟩
       ·obtain rfl := sj H
        exact fn [br h_8, bn h_9, pT, pF, bn h_20, bn h_21, pF, pF, au, bn h_22, pF, pF, au, bn (congrArg not h_23), pT, pF]
       ·obtain rfl := sj H
        exact fn [br h_8, bn h_9, pT, pF, bn h_20, bn h_21, pF, pF, au, bn h_22, pF, pF, au, bn (congrArg not h_23), pF, pF]
      ·rcases ic H with ⟨h_24, H⟩ | ⟨h_24, H⟩
       ·rcases ic H with ⟨h_25, H⟩ | ⟨h_25, H⟩
        ·obtain rfl := sj H
         exact fn [br h_8, bn h_9, pT, pF, bn h_20, bn h_21, pF, pF, au, bn h_22, pT, pF, bn h_24, bn (congrArg not h_25), pT, pF]
        ·obtain rfl := sj H
         exact fn [br h_8, bn h_9, pT, pF, bn h_20, bn h_21, pF, pF, au, bn h_22, pT, pF, bn h_24, bn (congrArg not h_25), pF, pF]
       ·obtain rfl := sj H
        exact fn [br h_8, bn h_9, pT, pF, bn h_20, bn h_21, pF, pF, au, bn h_22, pT, pF, bn h_24, pT]
     ·rcases ic H with ⟨h_26, H⟩ | ⟨h_26, H⟩
      ·rcases ie H with ⟨h_27, H⟩ | ⟨h_27, H⟩
       ·rcases ic H with ⟨h_28, H⟩ | ⟨h_28, H⟩
        ·obtain rfl := sj H
         exact fn [br h_8, bn h_9, pT, pF, bn h_20, bn h_21, pT, pF, bn h_26, bn h_27, pF, pF, au, bn (congrArg not h_28), pT, pF]
        ·obtain rfl := sj H
         exact fn [br h_8, bn h_9, pT, pF, bn h_20, bn h_21, pT, pF, bn h_26, bn h_27, pF, pF, au, bn (congrArg not h_28), pF, pF]
       ·rcases ic H with ⟨h_29, H⟩ | ⟨h_29, H⟩
        ·rcases ic H with ⟨h_30, H⟩ | ⟨h_30, H⟩
         ·obtain rfl := sj H
          exact fn [br h_8, bn h_9, pT, pF, bn h_20, bn h_21, pT, pF, bn h_26, bn h_27, pT, pF, bn h_29, bn (congrArg not h_30), pT, pF]
         ·obtain rfl := sj H
          exact fn [br h_8, bn h_9, pT, pF, bn h_20, bn h_21, pT, pF, bn h_26, bn h_27, pT, pF, bn h_29, bn (congrArg not h_30), pF, pF]
        ·obtain rfl := sj H
         exact fn [br h_8, bn h_9, pT, pF, bn h_20, bn h_21, pT, pF, bn h_26, bn h_27, pT, pF, bn h_29, pT]
      ·obtain rfl := sj H
       exact fn [br h_8, bn h_9, pT, pF, bn h_20, bn h_21, pT, pF, bn h_26, pT, au, pT]
    ·obtain rfl := sj H
     exact fn [br h_8, bn h_9, pT, pF, bn h_20, pT, au, pT, au, pT]
 rcases ie H with ⟨h_31, H⟩ | ⟨h_31, H⟩
 ·obtain rfl := sj H
  exact isa_check.F.run tb mixed [ca [] (isa_used.ev e_4), sg_ 3 j_7, br h_31] rfl (by kernel_rfl)
 ·obtain ⟨o_32, e_33, H⟩ := bdE H
  have j_34 : Rq isa_check.F 0 [1, 1, 1, 1, 0, 0] ⟨[(0, vi a_1), (3, .ref 0 0), (8, vi r_3.2.2.2.1), (9, vi r_3.2.2.2.2.1), (10, vi r_3.2.2.2.2.2)], [.box (api_Inst.c a_2)], []⟩ ((fun _ => .normal : Bool → Ex) o_32) ((fun o_32 => ⟨[(114, .v (.bool o_32))], [], []⟩ : Bool → ASt) o_32) := by
   clear H
   have H := e_33
   clear e_33
   rcases ic H with ⟨h_35, H⟩ | ⟨h_35, H⟩
   ·rcases ic H with ⟨h_36, H⟩ | ⟨h_36, H⟩
    ·obtain rfl := sj H
     exact fn [br h_35, br h_36, pT, pT, au, pT, au, pT, au, pT, au, pT, au, pT, au, pT]
    ·rcases ic H with ⟨h_37, H⟩ | ⟨h_37, H⟩
     ·obtain rfl := sj H
      exact fn [br h_35, br h_36, pF, pT, br h_37, pT, au, pT, au, pT, au, pT, au, pT, au, pT]
     ·obtain ⟨r_38, e_39, H⟩ := ltE H
      rcases ie H with ⟨h_40, H⟩ | ⟨h_40, H⟩
      ·obtain ⟨r_41, e_42, H⟩ := ltE H
       rcases ie H with ⟨h_43, H⟩ | ⟨h_43, H⟩
       ·rcases ic H with ⟨h_44, H⟩ | ⟨h_44, H⟩
        ·obtain rfl := sj H
         exact fn [br h_35, br h_36, pF, pT, br h_37, bn h_35, pF, pF, au, ca [] (isa_reg.ev e_39), pF, bn h_40, ca [] (isa_reg.ev e_42), pF, bn h_43, pF, br h_44, pT, au, pT]
        ·rcases ic H with ⟨h_45, H⟩ | ⟨h_45, H⟩
         ·obtain rfl := sj H
          exact fn [br h_35, br h_36, pF, pT, br h_37, bn h_35, pF, pF, au, ca [] (isa_reg.ev e_39), pF, bn h_40, ca [] (isa_reg.ev e_42), pF, bn h_43, pF, br h_44, pF, br h_45, pT]
         ·obtain ⟨g_46, H⟩ := gdE H
          let v_47 : Int := Int.tmod a_2.Imm r_3.2.2.2.2.2
          replace H := ltD H
          obtain rfl := sj H
          exact fn [br h_35, br h_36, pF, pT, br h_37, bn h_35, pF, pF, au, ca [] (isa_reg.ev e_39), pF, bn h_40, ca [] (isa_reg.ev e_42), pF, bn h_43, pF, br h_44, pF, br h_45, pf g_46, pF]
       ·obtain rfl := sj H
        exact fn [br h_35, br h_36, pF, pT, br h_37, bn h_35, pF, pF, au, ca [] (isa_reg.ev e_39), pF, bn h_40, ca [] (isa_reg.ev e_42), pF, bn h_43, pT, au, pT, au, pT]
      ·obtain rfl := sj H
       exact fn [br h_35, br h_36, pF, pT, br h_37, bn h_35, pF, pF, au, ca [] (isa_reg.ev e_39), pF, bn h_40, pT, au, pT, au, pT, au, pT]
   ·obtain ⟨r_48, e_49, H⟩ := ltE H
    rcases ie H with ⟨h_50, H⟩ | ⟨h_50, H⟩
    ·obtain ⟨r_51, e_52, H⟩ := ltE H
     rcases ie H with ⟨h_53, H⟩ | ⟨h_53, H⟩
     ·obtain ⟨r_54, e_55, H⟩ := ltE H
      rcases ie H with ⟨h_56, H⟩ | ⟨h_56, H⟩
      ·rcases ic H with ⟨h_57, H⟩ | ⟨h_57, H⟩
       ·obtain rfl := sj H
        exact fn [br h_35, pF, au, bn h_35, ca [] (isa_reg.ev e_49), pT, pF, bn h_50, ca [] (isa_reg.ev e_52), pF, bn h_53, ca [] (isa_reg.ev e_55), pF, bn h_56, pF, br h_57, pT, au, pT]
       ·rcases ic H with ⟨h_58, H⟩ | ⟨h_58, H⟩
        ·obtain rfl := sj H
         exact fn [br h_35, pF, au, bn h_35, ca [] (isa_reg.ev e_49), pT, pF, bn h_50, ca [] (isa_reg.ev e_52), pF, bn h_53, ca [] (isa_reg.ev e_55), pF, bn h_56, pF, br h_57, pF, br h_58, pT]
        ·obtain ⟨g_59, H⟩ := gdE H
         let v_60 : Int := Int.tmod a_2.Imm r_3.2.2.2.2.2
         replace H := ltD H
         obtain rfl := sj H
         exact fn [br h_35, pF, au, bn h_35, ca [] (isa_reg.ev e_49), pT, pF, bn h_50, ca [] (isa_reg.ev e_52), pF, bn h_53, ca [] (isa_reg.ev e_55), pF, bn h_56, pF, br h_57, pF, br h_58, pf g_59, pF]
      ·obtain rfl := sj H
       exact fn [br h_35, pF, au, bn h_35, ca [] (isa_reg.ev e_49), pT, pF, bn h_50, ca [] (isa_reg.ev e_52), pF, bn h_53, ca [] (isa_reg.ev e_55), pF, bn h_56, pT, au, pT, au, pT]
     ·obtain rfl := sj H
      exact fn [br h_35, pF, au, bn h_35, ca [] (isa_reg.ev e_49), pT, pF, bn h_50, ca [] (isa_reg.ev e_52), pF, bn h_53, pT, au, pT, au, pT, au, pT]
    ·obtain rfl := sj H
     exact fn [br h_35, pF, au, bn h_35, ca [] (isa_reg.ev e_49), pT, pF, bn h_50, pT, au, pT, au, pT, au, pT, au, pT]
  rcases ie H with ⟨h_61, H⟩ | ⟨h_61, H⟩
  ·obtain rfl := sj H
   exact isa_check.F.run tb mixed [ca [] (isa_used.ev e_4), sg_ 3 j_7, br h_31, sg_ 5 j_34, br h_61] rfl (by kernel_rfl)
  ·obtain rfl := sj H
   exact isa_check.F.run tb mixed [ca [] (isa_used.ev e_4), sg_ 3 j_7, br h_31, sg_ 5 j_34, br h_61] rfl (by kernel_rfl)
noncomputable def isa_cond.F : FI Try.prog 29 := fi Try.f29 10 Try.call29 Try.func29
def isa_cond.m (a_1 : Int) : Int :=
 if a_1 = 0 then (25165824) else (if a_1 = 1 then (8388608) else (if a_1 = 2 then (25296896) else (8519680)))
noncomputable def isa_cond.o (a_1 : Int) (r : Int) : Out := .ret (.v (.int .u32 r)) [] []
theorem isa_cond.ev {a_1 : Int} {r : Int} (H : isa_cond.m a_1 = r) : Ev Try.prog 29 [vi a_1] [] [] (isa_cond.o a_1 r) := by
 unfold isa_cond.m at H
 rcases ic H with ⟨h_2, H⟩ | ⟨h_2, H⟩
 ·subst H
  exact isa_cond.F.run tb mixed [br h_2] rfl (by kernel_rfl)
 ·rcases ic H with ⟨h_3, H⟩ | ⟨h_3, H⟩
  ·subst H
   exact isa_cond.F.run tb mixed [br h_2, br h_3] rfl (by kernel_rfl)
  ·rcases ic H with ⟨h_4, H⟩ | ⟨h_4, H⟩
   ·subst H
    exact isa_cond.F.run tb mixed [br h_2, br h_3, br h_4] rfl (by kernel_rfl)
   ·subst H
    exact isa_cond.F.run tb mixed [br h_2, br h_3, br h_4] rfl (by kernel_rfl)
noncomputable def isa_Encode.F : FI Try.prog 13 := fi Try.f13 147 Try.call13 Try.func13
def isa_Encode.m (a_1 : api_Inst) : Option (Int × Int) :=
 letC (isa_formOf.m a_1.Op) fun r_2 => (isa_check.m r_2.1 a_1).bind fun r_4 => if r_4 = 0 then (letC (wr .u32 ((wr .u32 a_1.T) * 2 ^ (min (21 : Int).toNat 32))) fun v_7 => letC (wr .u32 ((wr .u32 a_1.A) * 2 ^ (min (16 : Int).toNat 32))) fun v_8 => letC (wr .u32 ((wr .u32 a_1.B) * 2 ^ (min (11 : Int).toNat 32))) fun v_9 => (if r_2.1 = 1 then (letC (bits .and .u32 (wr .u32 a_1.Imm) (65535 : Int)) fun v_14 => letC (bits .or .u32 (bits .or .u32 v_7 v_8) v_14) fun v_15 => some ((bits .or .u32 r_2.2 v_15) : Int)) else (if r_2.1 = 2 then (letC (wr .u32 ((wr .u32 a_1.A) * 2 ^ (min (21 : Int).toNat 32))) fun v_17 => letC (wr .u32 ((wr .u32 a_1.T) * 2 ^ (min (16 : Int).toNat 32))) fun v_18 => letC (bits .or .u32 (bits .or .u32 v_17 v_18) (wr .u32 a_1.Imm)) fun v_19 => some ((bits .or .u32 r_2.2 v_19) : Int)) else (if r_2.1 = 3 then (letC (wr .u32 ((63 : Int) - (wr .u32 a_1.Imm))) fun v_21 => letC (wr .u32 ((wr .u32 a_1.A) * 2 ^ (min (21 : Int).toNat 32))) fun v_22 => letC (wr .u32 ((wr .u32 a_1.T) * 2 ^ (min (16 : Int).toNat 32))) fun v_23 => letC (bits .and .u32 (wr .u32 a_1.Imm) (31 : Int)) fun v_24 => letC (wr .u32 (v_24 * 2 ^ (min (11 : Int).toNat 32))) fun v_25 => letC (bits .or .u32 (bits .or .u32 v_22 v_23) v_25) fun v_26 => letC (bits .and .u32 v_21 (31 : Int)) fun v_27 => letC (wr .u32 (v_27 * 2 ^ (min (6 : Int).toNat 32))) fun v_28 => letC (v_21 / 2 ^ (min (5 : Int).toNat 32)) fun v_29 => letC (wr .u32 (v_29 * 2 ^ (min (5 : Int).toNat 32))) fun v_30 => letC (bits .or .u32 (bits .or .u32 v_26 v_28) v_30) fun v_31 => letC ((wr .u32 a_1.Imm) / 2 ^ (min (5 : Int).toNat 32)) fun v_32 => letC (wr .u32 (v_32 * 2 ^ (min (1 : Int).toNat 32))) fun v_33 => letC (bits .or .u32 r_2.2 (bits .or .u32 v_31 v_33)) fun v_34 => some (v_34 : Int)) else (if r_2.1 = 4 then (letC (bits .or .u32 (bits .or .u32 v_7 v_8) v_9) fun v_36 => some ((bits .or .u32 r_2.2 v_36) : Int)) else (if r_2.1 = 5 then (letC (bits .and .u32 (wr .u32 a_1.Imm) (65532 : Int)) fun v_38 => letC (bits .or .u32 (bits .or .u32 v_7 v_8) v_38) fun v_39 => some ((bits .or .u32 r_2.2 v_39) : Int)) else (if r_2.1 = 6 then (letC (bits .or .u32 r_2.2 (bits .or .u32 v_8 v_9)) fun v_41 => some (v_41 : Int)) else (if r_2.1 = 7 then (letC (bits .and .u32 (wr .u32 a_1.Imm) (65535 : Int)) fun v_43 => letC (bits .or .u32 r_2.2 (bits .or .u32 v_8 v_43)) fun v_44 => some (v_44 : Int)) else (if r_2.1 = 8 then (letC (isa_cond.m a_1.T) fun r_46 => letC (bits .and .u32 (wr .u32 a_1.Imm) (65532 : Int)) fun v_48 => letC (bits .or .u32 r_2.2 (bits .or .u32 r_46 v_48)) fun v_49 => some (v_49 : Int)) else (if r_2.1 = 9 then (letC (bits .and .u32 (wr .u32 a_1.Imm) (67108860 : Int)) fun v_51 => some ((bits .or .u32 r_2.2 v_51) : Int)) else (some (r_2.2 : Int)))))))))) : Option Int).bind fun o_10 => some (o_10, 0)) else (some (0, r_4))
noncomputable def isa_Encode.o (a_1 : api_Inst) (r : Int × Int) : Out := .ret (.tup [.v (.int .u32 r.1), vi r.2]) [] []
theorem isa_Encode.ev {a_1 : api_Inst} {r : Int × Int} (H : isa_Encode.m a_1 = some r) : Ev Try.prog 13 [.agg (api_Inst.c a_1)] [] [] (isa_Encode.o a_1 r) := by
 unfold isa_Encode.m at H
 obtain ⟨r_2, e_3, H⟩ := ltE H
 obtain ⟨r_4, e_5, H⟩ := bdE H
 rcases ic H with ⟨h_6, H⟩ | ⟨h_6, H⟩
 ·let v_7 : Int := wr .u32 ((wr .u32 a_1.T) * 2 ^ (min (21 : Int).toNat 32))
  replace H := ltD H
  let v_8 : Int := wr .u32 ((wr .u32 a_1.A) * 2 ^ (min (16 : Int).toNat 32))
  replace H := ltD H
  let v_9 : Int := wr .u32 ((wr .u32 a_1.B) * 2 ^ (min (11 : Int).toNat 32))
  replace H := ltD H
  obtain ⟨o_10, e_11, H⟩ := bdE H
  have j_12 : Rq isa_Encode.F 0 [1, 1, 1, 1, 0, 1] ⟨[(1, .ref 0 0), (5, .v (.int .u32 r_2.2)), (7, .v (.int .u32 v_7)), (8, .v (.int .u32 v_8)), (9, .v (.int .u32 v_9)), (10, .v (.int .u32 (wr .u32 a_1.Imm))), (39, vi r_2.1)], [.box (api_Inst.c a_1)], []⟩ ((fun _ => .normal : Int → Ex) o_10) ((fun o_10 => ⟨[(5, .v (.int .u32 o_10))], [], []⟩ : Int → ASt) o_10) := by
   clear H
   have H := e_11
   clear e_11
   rcases ic H with ⟨h_13, H⟩ | ⟨h_13, H⟩
   ·let v_14 : Int := bits .and .u32 (wr .u32 a_1.Imm) (65535 : Int)
    replace H := ltD H
    let v_15 : Int := bits .or .u32 (bits .or .u32 v_7 v_8) v_14
    replace H := ltD H
    obtain rfl := sj H
    exact fn [br h_13]
   ·rcases ic H with ⟨h_16, H⟩ | ⟨h_16, H⟩
    ·let v_17 : Int := wr .u32 ((wr .u32 a_1.A) * 2 ^ (min (21 : Int).toNat 32))
     replace H := ltD H
     let v_18 : Int := wr .u32 ((wr .u32 a_1.T) * 2 ^ (min (16 : Int).toNat 32))
     replace H := ltD H
     let v_19 : Int := bits .or .u32 (bits .or .u32 v_17 v_18) (wr .u32 a_1.Imm)
     replace H := ltD H
     obtain rfl := sj H
     exact fn [br h_13, br h_16, pf (by decide : 0 ≤ (21 : Int)), pf (by decide : 0 ≤ (16 : Int))]
    ·rcases ic H with ⟨h_20, H⟩ | ⟨h_20, H⟩
     ·let v_21 : Int := wr .u32 ((63 : Int) - (wr .u32 a_1.Imm))
      replace H := ltD H
      let v_22 : Int := wr .u32 ((wr .u32 a_1.A) * 2 ^ (min (21 : Int).toNat 32))
      replace H := ltD H
      let v_23 : Int := wr .u32 ((wr .u32 a_1.T) * 2 ^ (min (16 : Int).toNat 32))
      replace H := ltD H
      let v_24 : Int := bits .and .u32 (wr .u32 a_1.Imm) (31 : Int)
      replace H := ltD H
      let v_25 : Int := wr .u32 (v_24 * 2 ^ (min (11 : Int).toNat 32))
      replace H := ltD H
      let v_26 : Int := bits .or .u32 (bits .or .u32 v_22 v_23) v_25
      replace H := ltD H
      let v_27 : Int := bits .and .u32 v_21 (31 : Int)
      replace H := ltD H
      let v_28 : Int := wr .u32 (v_27 * 2 ^ (min (6 : Int).toNat 32))
      replace H := ltD H
      let v_29 : Int := v_21 / 2 ^ (min (5 : Int).toNat 32)
      replace H := ltD H
      let v_30 : Int := wr .u32 (v_29 * 2 ^ (min (5 : Int).toNat 32))
      replace H := ltD H
      let v_31 : Int := bits .or .u32 (bits .or .u32 v_26 v_28) v_30
      replace H := ltD H
      let v_32 : Int := (wr .u32 a_1.Imm) / 2 ^ (min (5 : Int).toNat 32)
      replace H := ltD H
      let v_33 : Int := wr .u32 (v_32 * 2 ^ (min (1 : Int).toNat 32))
      replace H := ltD H
      let v_34 : Int := bits .or .u32 r_2.2 (bits .or .u32 v_31 v_33)
      replace H := ltD H
      obtain rfl := sj H
      exact fn [br h_13, br h_16, br h_20, pf (by decide : 0 ≤ (21 : Int)), pf (by decide : 0 ≤ (16 : Int)), pf (by decide : 0 ≤ (11 : Int)), pf (by decide : 0 ≤ (6 : Int)), pf (by decide : 0 ≤ (5 : Int)), pf (by decide : 0 ≤ (5 : Int)), pf (by decide : 0 ≤ (5 : Int)), pf (by decide : 0 ≤ (1 : Int))]
     ·rcases ic H with ⟨h_35, H⟩ | ⟨h_35, H⟩
      ·let v_36 : Int := bits .or .u32 (bits .or .u32 v_7 v_8) v_9
       replace H := ltD H
       obtain rfl := sj H
       exact fn [br h_13, br h_16, br h_20, br h_35]
      ·rcases ic H with ⟨h_37, H⟩ | ⟨h_37, H⟩
       ·let v_38 : Int := bits .and .u32 (wr .u32 a_1.Imm) (65532 : Int)
        replace H := ltD H
        let v_39 : Int := bits .or .u32 (bits .or .u32 v_7 v_8) v_38
        replace H := ltD H
        obtain rfl := sj H
        exact fn [br h_13, br h_16, br h_20, br h_35, br h_37]
       ·rcases ic H with ⟨h_40, H⟩ | ⟨h_40, H⟩
        ·let v_41 : Int := bits .or .u32 r_2.2 (bits .or .u32 v_8 v_9)
         replace H := ltD H
         obtain rfl := sj H
         exact fn [br h_13, br h_16, br h_20, br h_35, br h_37, br h_40]
        ·rcases ic H with ⟨h_42, H⟩ | ⟨h_42, H⟩
         ·let v_43 : Int := bits .and .u32 (wr .u32 a_1.Imm) (65535 : Int)
          replace H := ltD H
          let v_44 : Int := bits .or .u32 r_2.2 (bits .or .u32 v_8 v_43)
          replace H := ltD H
          obtain rfl := sj H
          exact fn [br h_13, br h_16, br h_20, br h_35, br h_37, br h_40, br h_42]
         ·rcases ic H with ⟨h_45, H⟩ | ⟨h_45, H⟩
          ·obtain ⟨r_46, e_47, H⟩ := ltE H
           let v_48 : Int := bits .and .u32 (wr .u32 a_1.Imm) (65532 : Int)
           replace H := ltD H
           let v_49 : Int := bits .or .u32 r_2.2 (bits .or .u32 r_46 v_48)
           replace H := ltD H
           obtain rfl := sj H
           exact fn [br h_13, br h_16, br h_20, br h_35, br h_37, br h_40, br h_42, br h_45, ca [] (isa_cond.ev e_47)]
          ·rcases ic H with ⟨h_50, H⟩ | ⟨h_50, H⟩
           ·let v_51 : Int := bits .and .u32 (wr .u32 a_1.Imm) (67108860 : Int)
            replace H := ltD H
            obtain rfl := sj H
            exact fn [br h_13, br h_16, br h_20, br h_35, br h_37, br h_40, br h_42, br h_45, br h_50]
           ·obtain rfl := sj H
            exact fn [br h_13, br h_16, br h_20, br h_35, br h_37, br h_40, br h_42, br h_45, br h_50]
  obtain rfl := sj H
  exact isa_Encode.F.run tb mixed [ca [] (isa_formOf.ev e_3), ca [] (isa_check.ev e_5), bn h_6, pf (by decide : 0 ≤ (21 : Int)), pf (by decide : 0 ≤ (16 : Int)), pf (by decide : 0 ≤ (11 : Int)), sb_ j_12] rfl (by kernel_rfl)
 ·obtain rfl := sj H
  exact isa_Encode.F.run tb mixed [ca [] (isa_formOf.ev e_3), ca [] (isa_check.ev e_5), bn h_6] rfl (by kernel_rfl)
noncomputable def thread_two.F : FI Try.prog 64 := fi Try.f64 14 Try.call64 Try.func64
def thread_two.m (a_1 : Int) (a_2 : thread_cell) (a_3 : thread_cell) : thread_cell :=
 letC (bits .or .u64 a_2.hang a_3.hang) fun v_4 => (thread_cell.mk a_1 v_4)
noncomputable def thread_two.o (a_1 : Int) (a_2 : thread_cell) (a_3 : thread_cell) (r : thread_cell) : Out := .ret (.agg (thread_cell.c r)) [] []
theorem thread_two.ev {a_1 : Int} {a_2 : thread_cell} {a_3 : thread_cell} {r : thread_cell} (H : thread_two.m a_1 a_2 a_3 = r) : Ev Try.prog 64 [vi a_1, .agg (thread_cell.c a_2), .agg (thread_cell.c a_3)] [] [] (thread_two.o a_1 a_2 a_3 r) := by
 unfold thread_two.m at H
 let v_4 : Int := bits .or .u64 a_2.hang a_3.hang
 replace H := ltD H
 subst H
 exact thread_two.F.run tb mixed [] rfl (by kernel_rfl)
noncomputable def thread_quotient.F : FI Try.prog 65 := fi Try.f65 10 Try.call65 Try.func65
def thread_quotient.m (a_1 : Int) (a_2 : Int) : Option (Int) :=
 if a_2 = 0 then (some 0) else (if a_2 ≠ 0 then (some (wr .i64 (Int.tdiv a_1 a_2))) else none)
noncomputable def thread_quotient.o (a_1 : Int) (a_2 : Int) (r : Int) : Out := .ret (vi r) [] []
theorem thread_quotient.ev {a_1 : Int} {a_2 : Int} {r : Int} (H : thread_quotient.m a_1 a_2 = some r) : Ev Try.prog 65 [vi a_1, vi a_2] [] [] (thread_quotient.o a_1 a_2 r) := by
 unfold thread_quotient.m at H
 rcases ic H with ⟨h_3, H⟩ | ⟨h_3, H⟩
 ·obtain rfl := sj H
  exact thread_quotient.F.run tb mixed [br h_3] rfl (by kernel_rfl)
 ·obtain ⟨g_4, H⟩ := gdE H
  obtain rfl := sj H
  exact thread_quotient.F.run tb mixed [br h_3, pf g_4] rfl (by kernel_rfl)
noncomputable def thread_thread_tell_2.F : FI Try.prog 69 := fi Try.f69 31 Try.call69 Try.func69
def thread_thread_tell_2.m (a_1 : api_Event) (a_2 : List api_Inst) (a_3 : Int) (a_4 : Int) (a_5 : List Int) (a_6 : Arr thread_cell 32) (a_7 : Arr thread_cell 400) (a_8 : Bool) (a_9 : Bool) (a_10 : Int) (a_11 : Int) (a_12 : Int) (a_13 : Int) (a_14 : Int) (a_15 : List api_Event) : Option (Unit ⊕ (List api_Event)) :=
 if (a_15.length : Int) = 64 then (some (Sum.inl ())) else (if (a_15.length + ([(api_Event.mk a_1.Kind a_1.Loc a_1.Val a_1.Pair a_1.Addr a_1.Data a_11 a_12)] : List api_Event).length) * 64 ≤ 140737488355328 then (letC (a_15 ++ ([(api_Event.mk a_1.Kind a_1.Loc a_1.Val a_1.Pair a_1.Addr a_1.Data a_11 a_12)] : List api_Event)) fun v_18 => some (Sum.inr (v_18))) else none)
noncomputable def thread_thread_tell_2.o (a_1 : api_Event) (a_2 : List api_Inst) (a_3 : Int) (a_4 : Int) (a_5 : List Int) (a_6 : Arr thread_cell 32) (a_7 : Arr thread_cell 400) (a_8 : Bool) (a_9 : Bool) (a_10 : Int) (a_11 : Int) (a_12 : Int) (a_13 : Int) (a_14 : Int) (a_15 : List api_Event) (r : Unit ⊕ (List api_Event)) : Out := match r with | Sum.inl r => .pan (.ifc 97 (vi 5)) [.seg [.c (.ro false 5 a_2.length (a_2.map api_Inst.c)), .c (vi a_3), .c (vi a_4), .c (.ro false 1 a_5.length (a_5.map (cI .i64))), .a 2 32 (a_6.l.map thread_cell.c), .a 2 400 (a_7.l.map thread_cell.c), .c (.v (.bool a_8)), .c (.v (.bool a_9)), .c (.v (.int .u64 a_10)), .c (.v (.int .u64 a_11)), .c (.v (.int .u64 a_12)), .c (vi a_13), .c (vi a_14), .c (sL 1 a_15)], .arr true 48 8 a_15.length (a_15.map api_Event.c)] [] | Sum.inr (r) => .ret (.tup []) [.seg [.c (.ro false 5 a_2.length (a_2.map api_Inst.c)), .c (vi a_3), .c (vi a_4), .c (.ro false 1 a_5.length (a_5.map (cI .i64))), .a 2 32 (a_6.l.map thread_cell.c), .a 2 400 (a_7.l.map thread_cell.c), .c (.v (.bool a_8)), .c (.v (.bool a_9)), .c (.v (.int .u64 a_10)), .c (.v (.int .u64 a_11)), .c (.v (.int .u64 a_12)), .c (vi a_13), .c (vi a_14), .c (sL 1 r)], .arr true 48 8 r.length (r.map api_Event.c)] []
theorem thread_thread_tell_2.ev {a_1 : api_Event} {a_2 : List api_Inst} {a_3 : Int} {a_4 : Int} {a_5 : List Int} {a_6 : Arr thread_cell 32} {a_7 : Arr thread_cell 400} {a_8 : Bool} {a_9 : Bool} {a_10 : Int} {a_11 : Int} {a_12 : Int} {a_13 : Int} {a_14 : Int} {a_15 : List api_Event} {r : Unit ⊕ (List api_Event)} (H : thread_thread_tell_2.m a_1 a_2 a_3 a_4 a_5 a_6 a_7 a_8 a_9 a_10 a_11 a_12 a_13 a_14 a_15 = some r) : Ev Try.prog 69 [.ref 0 0, .agg (api_Event.c a_1)] [.seg [.c (.ro false 5 a_2.length (a_2.map api_Inst.c)), .c (vi a_3), .c (vi a_4), .c (.ro false 1 a_5.length (a_5.map (cI .i64))), .a 2 32 (a_6.l.map thread_cell.c), .a 2 400 (a_7.l.map thread_cell.c), .c (.v (.bool a_8)), .c (.v (.bool a_9)), .c (.v (.int .u64 a_10)), .c (.v (.int .u64 a_11)), .c (.v (.int .u64 a_12)), .c (vi a_13), .c (vi a_14), .c (sL 1 a_15)], .arr true 48 8 a_15.length (a_15.map api_Event.c)] [] (thread_thread_tell_2.o a_1 a_2 a_3 a_4 a_5 a_6 a_7 a_8 a_9 a_10 a_11 a_12 a_13 a_14 a_15 r) := by
 unfold thread_thread_tell_2.m at H
 rcases ic H with ⟨h_16, H⟩ | ⟨h_16, H⟩
 ·obtain rfl := sj H
  exact thread_thread_tell_2.F.run tb mixed [br h_16] rfl (by kernel_rfl)
 ·obtain ⟨g_17, H⟩ := gdE H
  let v_18 : List api_Event := a_15 ++ ([(api_Event.mk a_1.Kind a_1.Loc a_1.Val a_1.Pair a_1.Addr a_1.Data a_11 a_12)] : List api_Event)
  replace H := ltD H
  obtain rfl := sj H
  exact thread_thread_tell_2.F.run tb mixed [br h_16, ap api_Event.c 64 false a_15 ([(api_Event.mk a_1.Kind a_1.Loc a_1.Val a_1.Pair a_1.Addr a_1.Data a_11 a_12)] : List api_Event) g_17 (fun h => by cases h)] rfl (by kernel_rfl)
noncomputable def thread_thread_or_2.F : FI Try.prog 63 := fi Try.f63 14 Try.call63 Try.func63
def thread_thread_or_2.m (a_1 : Int) (a_2 : List api_Inst) (a_3 : Int) (a_4 : Int) (a_5 : List Int) (a_6 : Arr thread_cell 32) (a_7 : Arr thread_cell 400) (a_8 : Bool) (a_9 : Bool) (a_10 : Int) (a_11 : Int) (a_12 : Int) (a_13 : Int) (a_14 : Int) (a_15 : List api_Event) : Option (thread_cell) :=
 if a_1 = 0 then (some (thread_cell.mk 0 0)) else (if 0 ≤ a_1 ∧ a_1 < ((32 : Nat) : Int) then (letC (a_6.g a_1) fun v_18 => some v_18) else none)
noncomputable def thread_thread_or_2.o (a_1 : Int) (a_2 : List api_Inst) (a_3 : Int) (a_4 : Int) (a_5 : List Int) (a_6 : Arr thread_cell 32) (a_7 : Arr thread_cell 400) (a_8 : Bool) (a_9 : Bool) (a_10 : Int) (a_11 : Int) (a_12 : Int) (a_13 : Int) (a_14 : Int) (a_15 : List api_Event) (r : thread_cell) : Out := .ret (.agg (thread_cell.c r)) [.seg [.c (.ro false 5 a_2.length (a_2.map api_Inst.c)), .c (vi a_3), .c (vi a_4), .c (.ro false 1 a_5.length (a_5.map (cI .i64))), .a 2 32 (a_6.l.map thread_cell.c), .a 2 400 (a_7.l.map thread_cell.c), .c (.v (.bool a_8)), .c (.v (.bool a_9)), .c (.v (.int .u64 a_10)), .c (.v (.int .u64 a_11)), .c (.v (.int .u64 a_12)), .c (vi a_13), .c (vi a_14), .c (sL 1 a_15)], .arr true 48 8 a_15.length (a_15.map api_Event.c)] []
theorem thread_thread_or_2.ev {a_1 : Int} {a_2 : List api_Inst} {a_3 : Int} {a_4 : Int} {a_5 : List Int} {a_6 : Arr thread_cell 32} {a_7 : Arr thread_cell 400} {a_8 : Bool} {a_9 : Bool} {a_10 : Int} {a_11 : Int} {a_12 : Int} {a_13 : Int} {a_14 : Int} {a_15 : List api_Event} {r : thread_cell} (H : thread_thread_or_2.m a_1 a_2 a_3 a_4 a_5 a_6 a_7 a_8 a_9 a_10 a_11 a_12 a_13 a_14 a_15 = some r) : Ev Try.prog 63 [.ref 0 0, vi a_1] [.seg [.c (.ro false 5 a_2.length (a_2.map api_Inst.c)), .c (vi a_3), .c (vi a_4), .c (.ro false 1 a_5.length (a_5.map (cI .i64))), .a 2 32 (a_6.l.map thread_cell.c), .a 2 400 (a_7.l.map thread_cell.c), .c (.v (.bool a_8)), .c (.v (.bool a_9)), .c (.v (.int .u64 a_10)), .c (.v (.int .u64 a_11)), .c (.v (.int .u64 a_12)), .c (vi a_13), .c (vi a_14), .c (sL 1 a_15)], .arr true 48 8 a_15.length (a_15.map api_Event.c)] [] (thread_thread_or_2.o a_1 a_2 a_3 a_4 a_5 a_6 a_7 a_8 a_9 a_10 a_11 a_12 a_13 a_14 a_15 r) := by
 unfold thread_thread_or_2.m at H
 rcases ic H with ⟨h_16, H⟩ | ⟨h_16, H⟩
 ·obtain rfl := sj H
  exact thread_thread_or_2.F.run tb mixed [br h_16] rfl (by kernel_rfl)
 ·obtain ⟨g_17, H⟩ := gdE H
  let v_18 : thread_cell := a_6.g a_1
  replace H := ltD H
  obtain rfl := sj H
  exact thread_thread_or_2.F.run tb mixed [br h_16, pf g_17, sgl thread_cell.c a_6 4 0 g_17] rfl (by kernel_rfl)
noncomputable def thread_thread_place_2.F : FI Try.prog 89 := fi Try.f89 48 Try.call89 Try.func89
def thread_thread_place_2.m (a_1 : Int) (a_2 : List api_Inst) (a_3 : Int) (a_4 : Int) (a_5 : List Int) (a_6 : Arr thread_cell 32) (a_7 : Arr thread_cell 400) (a_8 : Bool) (a_9 : Bool) (a_10 : Int) (a_11 : Int) (a_12 : Int) (a_13 : Int) (a_14 : Int) (a_15 : List api_Event) : Int ⊕ Unit :=
 letC (wr .i64 (a_1 - 65536)) fun v_16 => letC (if v_16 ≥ 0 then (if v_16 < (wr .i64 ((8 : Int) * a_3)) then (((decide ((Int.tmod v_16 (8 : Int)) = 0)) : Bool)) else ((false : Bool))) else ((false : Bool)) : Bool) fun o_17 => if o_17 = true then (letC (wr .i64 (Int.tdiv v_16 (8 : Int))) fun v_23 => Sum.inl v_23) else (letC (if (wr .i64 (a_1 - a_4)) ≥ 0 then (if (wr .i64 (a_1 - a_4)) < 3200 then (letC (Int.tmod (wr .i64 (a_1 - a_4)) (8 : Int)) fun v_29 => ((decide (v_29 = 0)) : Bool)) else ((false : Bool))) else ((false : Bool)) : Bool) fun o_24 => if o_24 = true then (letC (wr .i64 (Int.tdiv (wr .i64 (a_1 - a_4)) (8 : Int))) fun v_31 => letC (wr .i64 ((-1 : Int) - v_31)) fun v_32 => Sum.inl v_32) else (Sum.inr (())))
noncomputable def thread_thread_place_2.o (a_1 : Int) (a_2 : List api_Inst) (a_3 : Int) (a_4 : Int) (a_5 : List Int) (a_6 : Arr thread_cell 32) (a_7 : Arr thread_cell 400) (a_8 : Bool) (a_9 : Bool) (a_10 : Int) (a_11 : Int) (a_12 : Int) (a_13 : Int) (a_14 : Int) (a_15 : List api_Event) (r : Int ⊕ Unit) : Out := match r with | Sum.inl r => .ret (vi r) [.seg [.c (.ro false 5 a_2.length (a_2.map api_Inst.c)), .c (vi a_3), .c (vi a_4), .c (.ro false 1 a_5.length (a_5.map (cI .i64))), .a 2 32 (a_6.l.map thread_cell.c), .a 2 400 (a_7.l.map thread_cell.c), .c (.v (.bool a_8)), .c (.v (.bool a_9)), .c (.v (.int .u64 a_10)), .c (.v (.int .u64 a_11)), .c (.v (.int .u64 a_12)), .c (vi a_13), .c (vi a_14), .c (sL 1 a_15)], .arr true 48 8 a_15.length (a_15.map api_Event.c)] [] | Sum.inr (r) => .pan (.ifc 97 (vi 6)) [.seg [.c (.ro false 5 a_2.length (a_2.map api_Inst.c)), .c (vi a_3), .c (vi a_4), .c (.ro false 1 a_5.length (a_5.map (cI .i64))), .a 2 32 (a_6.l.map thread_cell.c), .a 2 400 (a_7.l.map thread_cell.c), .c (.v (.bool a_8)), .c (.v (.bool a_9)), .c (.v (.int .u64 a_10)), .c (.v (.int .u64 a_11)), .c (.v (.int .u64 a_12)), .c (vi a_13), .c (vi a_14), .c (sL 1 a_15)], .arr true 48 8 a_15.length (a_15.map api_Event.c)] []
theorem thread_thread_place_2.ev {a_1 : Int} {a_2 : List api_Inst} {a_3 : Int} {a_4 : Int} {a_5 : List Int} {a_6 : Arr thread_cell 32} {a_7 : Arr thread_cell 400} {a_8 : Bool} {a_9 : Bool} {a_10 : Int} {a_11 : Int} {a_12 : Int} {a_13 : Int} {a_14 : Int} {a_15 : List api_Event} {r : Int ⊕ Unit} (H : thread_thread_place_2.m a_1 a_2 a_3 a_4 a_5 a_6 a_7 a_8 a_9 a_10 a_11 a_12 a_13 a_14 a_15 = r) : Ev Try.prog 89 [.ref 0 0, vi a_1] [.seg [.c (.ro false 5 a_2.length (a_2.map api_Inst.c)), .c (vi a_3), .c (vi a_4), .c (.ro false 1 a_5.length (a_5.map (cI .i64))), .a 2 32 (a_6.l.map thread_cell.c), .a 2 400 (a_7.l.map thread_cell.c), .c (.v (.bool a_8)), .c (.v (.bool a_9)), .c (.v (.int .u64 a_10)), .c (.v (.int .u64 a_11)), .c (.v (.int .u64 a_12)), .c (vi a_13), .c (vi a_14), .c (sL 1 a_15)], .arr true 48 8 a_15.length (a_15.map api_Event.c)] [] (thread_thread_place_2.o a_1 a_2 a_3 a_4 a_5 a_6 a_7 a_8 a_9 a_10 a_11 a_12 a_13 a_14 a_15 r) := by
 unfold thread_thread_place_2.m at H
 let v_16 : Int := wr .i64 (a_1 - 65536)
 replace H := ltD H
 obtain ⟨o_17, e_18, H⟩ := ltE H
 have j_19 : Rq thread_thread_place_2.F 2 [1, 0, 1, 0] ⟨[(0, .ref 0 0), (1, vi a_1), (5, vi v_16)], [.seg [.c (.ro false 5 a_2.length (a_2.map api_Inst.c)), .c (vi a_3), .c (vi a_4), .c (.ro false 1 a_5.length (a_5.map (cI .i64))), .a 2 32 (a_6.l.map thread_cell.c), .a 2 400 (a_7.l.map thread_cell.c), .c (.v (.bool a_8)), .c (.v (.bool a_9)), .c (.v (.int .u64 a_10)), .c (.v (.int .u64 a_11)), .c (.v (.int .u64 a_12)), .c (vi a_13), .c (vi a_14), .c (sL 1 a_15)], .arr true 48 8 a_15.length (a_15.map api_Event.c)], []⟩ ((fun _ => .normal : Bool → Ex) o_17) ((fun o_17 => ⟨[(0, .ref 0 0), (1, vi a_1), (5, vi v_16), (24, .v (.bool o_17))], [.seg [.c (.ro false 5 a_2.length (a_2.map api_Inst.c)), .c (vi a_3), .c (vi a_4), .c (.ro false 1 a_5.length (a_5.map (cI .i64))), .a 2 32 (a_6.l.map thread_cell.c), .a 2 400 (a_7.l.map thread_cell.c), .c (.v (.bool a_8)), .c (.v (.bool a_9)), .c (.v (.int .u64 a_10)), .c (.v (.int .u64 a_11)), .c (.v (.int .u64 a_12)), .c (vi a_13), .c (vi a_14), .c (sL 1 a_15)], .arr true 48 8 a_15.length (a_15.map api_Event.c)], []⟩ : Bool → ASt) o_17) := by
  clear H
  have H := e_18
  clear e_18
  rcases ic H with ⟨h_20, H⟩ | ⟨h_20, H⟩
  ·rcases ic H with ⟨h_21, H⟩ | ⟨h_21, H⟩
   ·subst H
    exact fn [br h_20, pT, br h_21, pf (by decide : (8 : Int) ≠ 0), pT]
   ·subst H
    exact fn [br h_20, pT, br h_21, pF]
  ·subst H
   exact fn [br h_20, pF, au, pF]
 rcases ie H with ⟨h_22, H⟩ | ⟨h_22, H⟩
 ·let v_23 : Int := wr .i64 (Int.tdiv v_16 (8 : Int))
  replace H := ltD H
  subst H
  exact thread_thread_place_2.F.run tb mixed [sg_ 2 j_19, br h_22, pf (by decide : (8 : Int) ≠ 0)] rfl (by kernel_rfl)
 ·obtain ⟨o_24, e_25, H⟩ := ltE H
  have j_26 : Rq thread_thread_place_2.F 2 [1, 1, 0, 1, 0] ⟨[(6, vi (wr .i64 (a_1 - a_4)))], [.seg [.c (.ro false 5 a_2.length (a_2.map api_Inst.c)), .c (vi a_3), .c (vi a_4), .c (.ro false 1 a_5.length (a_5.map (cI .i64))), .a 2 32 (a_6.l.map thread_cell.c), .a 2 400 (a_7.l.map thread_cell.c), .c (.v (.bool a_8)), .c (.v (.bool a_9)), .c (.v (.int .u64 a_10)), .c (.v (.int .u64 a_11)), .c (.v (.int .u64 a_12)), .c (vi a_13), .c (vi a_14), .c (sL 1 a_15)], .arr true 48 8 a_15.length (a_15.map api_Event.c)], []⟩ ((fun _ => .normal : Bool → Ex) o_24) ((fun o_24 => ⟨[(6, vi (wr .i64 (a_1 - a_4))), (43, .v (.bool o_24))], [.seg [.c (.ro false 5 a_2.length (a_2.map api_Inst.c)), .c (vi a_3), .c (vi a_4), .c (.ro false 1 a_5.length (a_5.map (cI .i64))), .a 2 32 (a_6.l.map thread_cell.c), .a 2 400 (a_7.l.map thread_cell.c), .c (.v (.bool a_8)), .c (.v (.bool a_9)), .c (.v (.int .u64 a_10)), .c (.v (.int .u64 a_11)), .c (.v (.int .u64 a_12)), .c (vi a_13), .c (vi a_14), .c (sL 1 a_15)], .arr true 48 8 a_15.length (a_15.map api_Event.c)], []⟩ : Bool → ASt) o_24) := by
   clear H
   have H := e_25
   clear e_25
   rcases ic H with ⟨h_27, H⟩ | ⟨h_27, H⟩
   ·rcases ic H with ⟨h_28, H⟩ | ⟨h_28, H⟩
    ·let v_29 : Int := Int.tmod (wr .i64 (a_1 - a_4)) (8 : Int)
     replace H := ltD H
     subst H
     exact fn [br h_27, pT, br h_28, pf (by decide : (8 : Int) ≠ 0), pT]
    ·subst H
     exact fn [br h_27, pT, br h_28, pF]
   ·subst H
    exact fn [br h_27, pF, au, pF]
  rcases ie H with ⟨h_30, H⟩ | ⟨h_30, H⟩
  ·let v_31 : Int := wr .i64 (Int.tdiv (wr .i64 (a_1 - a_4)) (8 : Int))
   replace H := ltD H
   let v_32 : Int := wr .i64 ((-1 : Int) - v_31)
   replace H := ltD H
   subst H
   exact thread_thread_place_2.F.run tb mixed [sg_ 2 j_19, br h_22, sg_ 5 j_26, br h_30, pf (by decide : (8 : Int) ≠ 0)] rfl (by kernel_rfl)
  ·subst H
   exact thread_thread_place_2.F.run tb mixed [sg_ 2 j_19, br h_22, sg_ 5 j_26, br h_30] rfl (by kernel_rfl)
noncomputable def thread_thread_load_2.F : FI Try.prog 66 := fi Try.f66 98 Try.call66 Try.func66
def thread_thread_load_2.m (a_1 : api_Inst) (a_2 : thread_cell) (a_3 : List api_Inst) (a_4 : Int) (a_5 : Int) (a_6 : List Int) (a_7 : Arr thread_cell 32) (a_8 : Arr thread_cell 400) (a_9 : Bool) (a_10 : Bool) (a_11 : Int) (a_12 : Int) (a_13 : Int) (a_14 : Int) (a_15 : Int) (a_16 : List api_Event) : Option (((List Int) × (Arr thread_cell 32) × Int × Int × (List api_Event)) ⊕ Int) :=
 letC (thread_thread_place_2.m a_2.n a_3 a_4 a_5 a_6 a_7 a_8 a_9 a_10 a_11 a_12 a_13 a_14 a_15 a_16) fun r_17 => match r_17 with | Sum.inl r_19 => (if r_19 < 0 then (letC (wr .i64 ((-1 : Int) - r_19)) fun v_22 => if 0 ≤ v_22 ∧ v_22 < ((400 : Nat) : Int) then (letC (a_8.g v_22) fun v_24 => letC (bits .or .u64 v_24.hang a_2.hang) fun v_25 => if 0 ≤ a_1.T ∧ a_1.T < ((32 : Nat) : Int) then (letC (a_7.s a_1.T (thread_cell.mk v_24.n v_25)) fun v_27 => if a_1.Op = 14 then (some (Sum.inl (a_6, v_27, (-1), a_15, a_16))) else (some (Sum.inl (a_6, v_27, a_14, a_15, a_16)))) else none) else none) else (if (a_6.length : Int) = 0 then (some (Sum.inr (4))) else (if 0 ≤ (0 : Int) ∧ (0 : Int) < (a_6.length : Int) then (letC (gi a_6 0) fun v_31 => (thread_thread_tell_2.m (api_Event.mk 1 r_19 v_31 0 a_2.hang 0 0 0) a_3 a_4 a_5 a_6 a_7 a_8 a_9 a_10 a_11 a_12 a_13 a_14 a_15 a_16).bind fun r_32 => match r_32 with | Sum.inl r_34 => (some (Sum.inr (5))) | Sum.inr (r_35) => (if 0 ≤ (1 : Int) ∧ (1 : Int) ≤ (a_6.length : Int) ∧ (a_6.length : Int) ≤ (a_6.length : Int) then (letC ((a_6.drop (1 : Int).toNat).take ((a_6.length : Int).toNat - (1 : Int).toNat)) fun v_37 => letC (wr .u64 (a_16.length : Int)) fun v_38 => if 0 ≤ v_38 then (letC (wr .u64 ((1 : Int) * 2 ^ (min v_38.toNat 64))) fun v_40 => if 0 ≤ a_1.T ∧ a_1.T < ((32 : Nat) : Int) then (letC (a_7.s a_1.T (thread_cell.mk v_31 v_40)) fun v_42 => if a_1.Op = 14 then (some (Sum.inl (v_37, v_42, r_19, (a_16.length : Int), r_35))) else (some (Sum.inl (v_37, v_42, a_14, a_15, r_35)))) else none) else none) else none)) else none))) | Sum.inr (r_20) => (some (Sum.inr (6)))
noncomputable def thread_thread_load_2.o (a_1 : api_Inst) (a_2 : thread_cell) (a_3 : List api_Inst) (a_4 : Int) (a_5 : Int) (a_6 : List Int) (a_7 : Arr thread_cell 32) (a_8 : Arr thread_cell 400) (a_9 : Bool) (a_10 : Bool) (a_11 : Int) (a_12 : Int) (a_13 : Int) (a_14 : Int) (a_15 : Int) (a_16 : List api_Event) (r : ((List Int) × (Arr thread_cell 32) × Int × Int × (List api_Event)) ⊕ Int) : Out := match r with | Sum.inl r => .ret (.tup []) [.seg [.c (.ro false 5 a_3.length (a_3.map api_Inst.c)), .c (vi a_4), .c (vi a_5), .c (.ro false 1 r.1.length (r.1.map (cI .i64))), .a 2 32 (r.2.1.l.map thread_cell.c), .a 2 400 (a_8.l.map thread_cell.c), .c (.v (.bool a_9)), .c (.v (.bool a_10)), .c (.v (.int .u64 a_11)), .c (.v (.int .u64 a_12)), .c (.v (.int .u64 a_13)), .c (vi r.2.2.1), .c (vi r.2.2.2.1), .c (sL 1 r.2.2.2.2)], .arr true 48 8 r.2.2.2.2.length (r.2.2.2.2.map api_Event.c)] [] | Sum.inr (r) => .pan (.ifc 97 (vi r)) [.seg [.c (.ro false 5 a_3.length (a_3.map api_Inst.c)), .c (vi a_4), .c (vi a_5), .c (.ro false 1 a_6.length (a_6.map (cI .i64))), .a 2 32 (a_7.l.map thread_cell.c), .a 2 400 (a_8.l.map thread_cell.c), .c (.v (.bool a_9)), .c (.v (.bool a_10)), .c (.v (.int .u64 a_11)), .c (.v (.int .u64 a_12)), .c (.v (.int .u64 a_13)), .c (vi a_14), .c (vi a_15), .c (sL 1 a_16)], .arr true 48 8 a_16.length (a_16.map api_Event.c)] []
theorem thread_thread_load_2.ev {a_1 : api_Inst} {a_2 : thread_cell} {a_3 : List api_Inst} {a_4 : Int} {a_5 : Int} {a_6 : List Int} {a_7 : Arr thread_cell 32} {a_8 : Arr thread_cell 400} {a_9 : Bool} {a_10 : Bool} {a_11 : Int} {a_12 : Int} {a_13 : Int} {a_14 : Int} {a_15 : Int} {a_16 : List api_Event} {r : ((List Int) × (Arr thread_cell 32) × Int × Int × (List api_Event)) ⊕ Int} (H : thread_thread_load_2.m a_1 a_2 a_3 a_4 a_5 a_6 a_7 a_8 a_9 a_10 a_11 a_12 a_13 a_14 a_15 a_16 = some r) : Ev Try.prog 66 [.ref 0 0, .agg (api_Inst.c a_1), .agg (thread_cell.c a_2)] [.seg [.c (.ro false 5 a_3.length (a_3.map api_Inst.c)), .c (vi a_4), .c (vi a_5), .c (.ro false 1 a_6.length (a_6.map (cI .i64))), .a 2 32 (a_7.l.map thread_cell.c), .a 2 400 (a_8.l.map thread_cell.c), .c (.v (.bool a_9)), .c (.v (.bool a_10)), .c (.v (.int .u64 a_11)), .c (.v (.int .u64 a_12)), .c (.v (.int .u64 a_13)), .c (vi a_14), .c (vi a_15), .c (sL 1 a_16)], .arr true 48 8 a_16.length (a_16.map api_Event.c)] [] (thread_thread_load_2.o a_1 a_2 a_3 a_4 a_5 a_6 a_7 a_8 a_9 a_10 a_11 a_12 a_13 a_14 a_15 a_16 r) := by
 unfold thread_thread_load_2.m at H
 obtain ⟨r_17, e_18, H⟩ := ltE H
 rcases r_17 with r_19 | r_20
 ·rcases ic H with ⟨h_21, H⟩ | ⟨h_21, H⟩
  ·let v_22 : Int := wr .i64 ((-1 : Int) - r_19)
   replace H := ltD H
   obtain ⟨g_23, H⟩ := gdE H
   let v_24 : thread_cell := a_8.g v_22
   replace H := ltD H
   let v_25 : Int := bits .or .u64 v_24.hang a_2.hang
   replace H := ltD H
   obtain ⟨g_26, H⟩ := gdE H
   let v_27 : Arr thread_cell 32 := a_7.s a_1.T (thread_cell.mk v_24.n v_25)
   replace H := ltD H
   rcases ic H with ⟨h_28, H⟩ | ⟨h_28, H⟩
   ·obtain rfl := sj H
    exact thread_thread_load_2.F.run tb mixed [ca [0, 1] (thread_thread_place_2.ev e_18), br h_21, pf g_23, sgl thread_cell.c a_8 5 0 g_23, au, pf g_26, sgs thread_cell.c a_7 4 0 [vi v_24.n, .v (.int .u64 v_25)] (thread_cell.mk v_24.n v_25) g_26 (by kernel_rfl), br h_28] rfl (by kernel_rfl)
   ·obtain rfl := sj H
    exact thread_thread_load_2.F.run tb mixed [ca [0, 1] (thread_thread_place_2.ev e_18), br h_21, pf g_23, sgl thread_cell.c a_8 5 0 g_23, au, pf g_26, sgs thread_cell.c a_7 4 0 [vi v_24.n, .v (.int .u64 v_25)] (thread_cell.mk v_24.n v_25) g_26 (by kernel_rfl), br h_28] rfl (by kernel_rfl)
  ·rcases ic H with ⟨h_29, H⟩ | ⟨h_29, H⟩
   ·obtain rfl := sj H
    exact thread_thread_load_2.F.run tb mixed [ca [0, 1] (thread_thread_place_2.ev e_18), br h_21, br h_29] rfl (by kernel_rfl)
   ·obtain ⟨g_30, H⟩ := gdE H
    let v_31 : Int := gi a_6 0
    replace H := ltD H
    obtain ⟨r_32, e_33, H⟩ := bdE H
    rcases r_32 with r_34 | r_35
    ·obtain rfl := sj H
     exact thread_thread_load_2.F.run tb mixed [ca [0, 1] (thread_thread_place_2.ev e_18), br h_21, br h_29, ix (cI .i64) g_30, ca [0, 1] (thread_thread_tell_2.ev e_33)] rfl (by kernel_rfl)
    ·obtain ⟨g_36, H⟩ := gdE H
     let v_37 : List Int := (a_6.drop (1 : Int).toNat).take ((a_6.length : Int).toNat - (1 : Int).toNat)
     replace H := ltD H
     let v_38 : Int := wr .u64 (a_16.length : Int)
     replace H := ltD H
     obtain ⟨g_39, H⟩ := gdE H
     let v_40 : Int := wr .u64 ((1 : Int) * 2 ^ (min v_38.toNat 64))
     replace H := ltD H
     obtain ⟨g_41, H⟩ := gdE H
     let v_42 : Arr thread_cell 32 := a_7.s a_1.T (thread_cell.mk v_31 v_40)
     replace H := ltD H
     rcases ic H with ⟨h_43, H⟩ | ⟨h_43, H⟩
     ·obtain rfl := sj H
      exact thread_thread_load_2.F.run tb mixed [ca [0, 1] (thread_thread_place_2.ev e_18), br h_21, br h_29, ix (cI .i64) g_30, ca [0, 1] (thread_thread_tell_2.ev e_33), ct (cI .i64) a_6 (1 : Int) (a_6.length : Int) g_36, pf g_39, pf g_41, sgs thread_cell.c a_7 4 0 [vi v_31, .v (.int .u64 v_40)] (thread_cell.mk v_31 v_40) g_41 (by kernel_rfl), br h_43] rfl (by kernel_rfl)
     ·obtain rfl := sj H
      exact thread_thread_load_2.F.run tb mixed [ca [0, 1] (thread_thread_place_2.ev e_18), br h_21, br h_29, ix (cI .i64) g_30, ca [0, 1] (thread_thread_tell_2.ev e_33), ct (cI .i64) a_6 (1 : Int) (a_6.length : Int) g_36, pf g_39, pf g_41, sgs thread_cell.c a_7 4 0 [vi v_31, .v (.int .u64 v_40)] (thread_cell.mk v_31 v_40) g_41 (by kernel_rfl), br h_43] rfl (by kernel_rfl)
 ·obtain rfl := sj H
  exact thread_thread_load_2.F.run tb mixed [ca [0, 1] (thread_thread_place_2.ev e_18)] rfl (by kernel_rfl)
noncomputable def thread_thread_store_2.F : FI Try.prog 67 := fi Try.f67 88 Try.call67 Try.func67
def thread_thread_store_2.m (a_1 : api_Inst) (a_2 : thread_cell) (a_3 : List api_Inst) (a_4 : Int) (a_5 : Int) (a_6 : List Int) (a_7 : Arr thread_cell 32) (a_8 : Arr thread_cell 400) (a_9 : Bool) (a_10 : Bool) (a_11 : Int) (a_12 : Int) (a_13 : Int) (a_14 : Int) (a_15 : Int) (a_16 : List api_Event) : Option (Int ⊕ ((Arr thread_cell 400) × Bool × Bool × Int × Int × (List api_Event))) :=
 letC (thread_thread_place_2.m a_2.n a_3 a_4 a_5 a_6 a_7 a_8 a_9 a_10 a_11 a_12 a_13 a_14 a_15 a_16) fun r_17 => match r_17 with | Sum.inl r_19 => (if 0 ≤ a_1.T ∧ a_1.T < ((32 : Nat) : Int) then (letC (a_7.g a_1.T) fun v_22 => if a_1.Op = 15 then ((if r_19 ≥ 0 then (some ((decide (r_19 = a_14)) : Bool)) else (some (false : Bool)) : Option Bool).bind fun o_24 => (if o_24 = true then ((thread_thread_tell_2.m (api_Event.mk 2 r_19 v_22.n (wr .i64 (a_15 + 1)) a_2.hang v_22.hang 0 0) a_3 a_4 a_5 a_6 a_7 a_8 a_9 a_10 a_11 a_12 a_13 a_14 a_15 a_16).bind fun r_32 => match r_32 with | Sum.inl r_34 => (some (Sum.inl () : Unit ⊕ (List api_Event))) | Sum.inr (r_35) => (some (Sum.inr (r_35) : Unit ⊕ (List api_Event)))) else (some (Sum.inr (a_16) : Unit ⊕ (List api_Event))) : Option (Unit ⊕ (List api_Event))).bind fun o_28 => match o_28 with | Sum.inl s_36 => (some (Sum.inl 5)) | Sum.inr (s_37) => (some (Sum.inr ((a_8, false, o_24, 0, (-1), s_37))))) else (if r_19 < 0 then (letC (wr .i64 ((-1 : Int) - r_19)) fun v_39 => letC (bits .or .u64 v_22.hang a_2.hang) fun v_40 => if 0 ≤ v_39 ∧ v_39 < ((400 : Nat) : Int) then (letC (a_8.s v_39 (thread_cell.mk v_22.n v_40)) fun v_42 => some (Sum.inr ((v_42, a_9, a_10, a_11, a_14, a_16)))) else none) else ((thread_thread_tell_2.m (api_Event.mk 2 r_19 v_22.n 0 a_2.hang v_22.hang 0 0) a_3 a_4 a_5 a_6 a_7 a_8 a_9 a_10 a_11 a_12 a_13 a_14 a_15 a_16).bind fun r_43 => match r_43 with | Sum.inl r_45 => (some (Sum.inl 5)) | Sum.inr (r_46) => (some (Sum.inr ((a_8, a_9, a_10, a_11, a_14, r_46))))))) else none) | Sum.inr (r_20) => (some (Sum.inl 6))
noncomputable def thread_thread_store_2.o (a_1 : api_Inst) (a_2 : thread_cell) (a_3 : List api_Inst) (a_4 : Int) (a_5 : Int) (a_6 : List Int) (a_7 : Arr thread_cell 32) (a_8 : Arr thread_cell 400) (a_9 : Bool) (a_10 : Bool) (a_11 : Int) (a_12 : Int) (a_13 : Int) (a_14 : Int) (a_15 : Int) (a_16 : List api_Event) (r : Int ⊕ ((Arr thread_cell 400) × Bool × Bool × Int × Int × (List api_Event))) : Out := match r with | Sum.inl r => .pan (.ifc 97 (vi r)) [.seg [.c (.ro false 5 a_3.length (a_3.map api_Inst.c)), .c (vi a_4), .c (vi a_5), .c (.ro false 1 a_6.length (a_6.map (cI .i64))), .a 2 32 (a_7.l.map thread_cell.c), .a 2 400 (a_8.l.map thread_cell.c), .c (.v (.bool a_9)), .c (.v (.bool a_10)), .c (.v (.int .u64 a_11)), .c (.v (.int .u64 a_12)), .c (.v (.int .u64 a_13)), .c (vi a_14), .c (vi a_15), .c (sL 1 a_16)], .arr true 48 8 a_16.length (a_16.map api_Event.c)] [] | Sum.inr (r) => .ret (.tup []) [.seg [.c (.ro false 5 a_3.length (a_3.map api_Inst.c)), .c (vi a_4), .c (vi a_5), .c (.ro false 1 a_6.length (a_6.map (cI .i64))), .a 2 32 (a_7.l.map thread_cell.c), .a 2 400 (r.1.l.map thread_cell.c), .c (.v (.bool r.2.1)), .c (.v (.bool r.2.2.1)), .c (.v (.int .u64 r.2.2.2.1)), .c (.v (.int .u64 a_12)), .c (.v (.int .u64 a_13)), .c (vi r.2.2.2.2.1), .c (vi a_15), .c (sL 1 r.2.2.2.2.2)], .arr true 48 8 r.2.2.2.2.2.length (r.2.2.2.2.2.map api_Event.c)] []
theorem thread_thread_store_2.ev {a_1 : api_Inst} {a_2 : thread_cell} {a_3 : List api_Inst} {a_4 : Int} {a_5 : Int} {a_6 : List Int} {a_7 : Arr thread_cell 32} {a_8 : Arr thread_cell 400} {a_9 : Bool} {a_10 : Bool} {a_11 : Int} {a_12 : Int} {a_13 : Int} {a_14 : Int} {a_15 : Int} {a_16 : List api_Event} {r : Int ⊕ ((Arr thread_cell 400) × Bool × Bool × Int × Int × (List api_Event))} (H : thread_thread_store_2.m a_1 a_2 a_3 a_4 a_5 a_6 a_7 a_8 a_9 a_10 a_11 a_12 a_13 a_14 a_15 a_16 = some r) : Ev Try.prog 67 [.ref 0 0, .agg (api_Inst.c a_1), .agg (thread_cell.c a_2)] [.seg [.c (.ro false 5 a_3.length (a_3.map api_Inst.c)), .c (vi a_4), .c (vi a_5), .c (.ro false 1 a_6.length (a_6.map (cI .i64))), .a 2 32 (a_7.l.map thread_cell.c), .a 2 400 (a_8.l.map thread_cell.c), .c (.v (.bool a_9)), .c (.v (.bool a_10)), .c (.v (.int .u64 a_11)), .c (.v (.int .u64 a_12)), .c (.v (.int .u64 a_13)), .c (vi a_14), .c (vi a_15), .c (sL 1 a_16)], .arr true 48 8 a_16.length (a_16.map api_Event.c)] [] (thread_thread_store_2.o a_1 a_2 a_3 a_4 a_5 a_6 a_7 a_8 a_9 a_10 a_11 a_12 a_13 a_14 a_15 a_16 r) := by
 unfold thread_thread_store_2.m at H
 obtain ⟨r_17, e_18, H⟩ := ltE H
 rcases r_17 with r_19 | r_20
 ·obtain ⟨g_21, H⟩ := gdE H
  let v_22 : thread_cell := a_7.g a_1.T
  replace H := ltD H
  rcases ic H with ⟨h_23, H⟩ | ⟨h_23, H⟩
  ·obtain ⟨o_24, e_25, H⟩ := bdE H
   have j_26 : Rq thread_thread_store_2.F 2 [1, 1, 1, 0, 1, 0, 0] ⟨[(0, .ref 0 0), (5, .ref 3 0), (6, vi r_19), (7, .ref 4 0)], [.seg [.c (.ro false 5 a_3.length (a_3.map api_Inst.c)), .c (vi a_4), .c (vi a_5), .c (.ro false 1 a_6.length (a_6.map (cI .i64))), .a 2 32 (a_7.l.map thread_cell.c), .a 2 400 (a_8.l.map thread_cell.c), .c (.v (.bool a_9)), .c (.v (.bool a_10)), .c (.v (.int .u64 a_11)), .c (.v (.int .u64 a_12)), .c (.v (.int .u64 a_13)), .c (vi a_14), .c (vi a_15), .c (sL 1 a_16)], .arr true 48 8 a_16.length (a_16.map api_Event.c), .dead, .box (thread_cell.c a_2), .box (thread_cell.c v_22)], []⟩ ((fun _ => .normal : Bool → Ex) o_24) ((fun o_24 => ⟨[(0, .ref 0 0), (5, .ref 3 0), (6, vi r_19), (7, .ref 4 0), (8, .v (.bool o_24))], [.seg [.c (.ro false 5 a_3.length (a_3.map api_Inst.c)), .c (vi a_4), .c (vi a_5), .c (.ro false 1 a_6.length (a_6.map (cI .i64))), .a 2 32 (a_7.l.map thread_cell.c), .a 2 400 (a_8.l.map thread_cell.c), .c (.v (.bool a_9)), .c (.v (.bool a_10)), .c (.v (.int .u64 a_11)), .c (.v (.int .u64 a_12)), .c (.v (.int .u64 a_13)), .c (vi a_14), .c (vi a_15), .c (sL 1 a_16)], .arr true 48 8 a_16.length (a_16.map api_Event.c), .dead, .box (thread_cell.c a_2), .box (thread_cell.c v_22)], []⟩ : Bool → ASt) o_24) := by
    clear H
    have H := e_25
    clear e_25
    rcases ic H with ⟨h_27, H⟩ | ⟨h_27, H⟩
    ·obtain rfl := sj H
     exact fn [br h_27, pT]
    ·obtain rfl := sj H
     exact fn [br h_27, pF]
   obtain ⟨o_28, e_29, H⟩ := bdE H
   have j_30 : Rq thread_thread_store_2.F 2 [1, 1, 1, 0, 1, 0, 1, 0, 1] ⟨[(0, .ref 0 0), (5, .ref 3 0), (6, vi r_19), (7, .ref 4 0), (8, .v (.bool o_24)), (33, .v (.bool o_24))], [.seg [.c (.ro false 5 a_3.length (a_3.map api_Inst.c)), .c (vi a_4), .c (vi a_5), .c (.ro false 1 a_6.length (a_6.map (cI .i64))), .a 2 32 (a_7.l.map thread_cell.c), .a 2 400 (a_8.l.map thread_cell.c), .c (.v (.bool a_9)), .c (.v (.bool a_10)), .c (.v (.int .u64 a_11)), .c (.v (.int .u64 a_12)), .c (.v (.int .u64 a_13)), .c (vi a_14), .c (vi a_15), .c (sL 1 a_16)], .arr true 48 8 a_16.length (a_16.map api_Event.c), .dead, .box (thread_cell.c a_2), .box (thread_cell.c v_22)], []⟩ ((fun o => match o with | Sum.inl s_36 => (.pan (.ifc 97 (vi 5))) | Sum.inr (_) => .normal : (Unit ⊕ (List api_Event)) → Ex) o_28) ((fun o => match o with | Sum.inl s_36 => ⟨[], [.seg [.c (.ro false 5 a_3.length (a_3.map api_Inst.c)), .c (vi a_4), .c (vi a_5), .c (.ro false 1 a_6.length (a_6.map (cI .i64))), .a 2 32 (a_7.l.map thread_cell.c), .a 2 400 (a_8.l.map thread_cell.c), .c (.v (.bool a_9)), .c (.v (.bool a_10)), .c (.v (.int .u64 a_11)), .c (.v (.int .u64 a_12)), .c (.v (.int .u64 a_13)), .c (vi a_14), .c (vi a_15), .c (sL 1 a_16)], .arr true 48 8 a_16.length (a_16.map api_Event.c)], []⟩ | Sum.inr (s_37) => ⟨[(0, .ref 0 0), (8, .v (.bool o_24))], [.seg [.c (.ro false 5 a_3.length (a_3.map api_Inst.c)), .c (vi a_4), .c (vi a_5), .c (.ro false 1 a_6.length (a_6.map (cI .i64))), .a 2 32 (a_7.l.map thread_cell.c), .a 2 400 (a_8.l.map thread_cell.c), .c (.v (.bool a_9)), .c (.v (.bool a_10)), .c (.v (.int .u64 a_11)), .c (.v (.int .u64 a_12)), .c (.v (.int .u64 a_13)), .c (vi a_14), .c (vi a_15), .c (sL 1 s_37)], .arr true 48 8 s_37.length (s_37.map api_Event.c)], []⟩ : (Unit ⊕ (List api_Event)) → ASt) o_28) := by
    clear H
    have H := e_29
    clear e_29
    rcases ie H with ⟨h_31, H⟩ | ⟨h_31, H⟩
    ·obtain ⟨r_32, e_33, H⟩ := bdE H
     rcases r_32 with r_34 | r_35
     ·obtain rfl := sj H
      exact fn [br h_31, kp [0, 1] [.seg [.c (.ro false 5 a_3.length (a_3.map api_Inst.c)), .c (vi a_4), .c (vi a_5), .c (.ro false 1 a_6.length (a_6.map (cI .i64))), .a 2 32 (a_7.l.map thread_cell.c), .a 2 400 (a_8.l.map thread_cell.c), .c (.v (.bool a_9)), .c (.v (.bool a_10)), .c (.v (.int .u64 a_11)), .c (.v (.int .u64 a_12)), .c (.v (.int .u64 a_13)), .c (vi a_14), .c (vi a_15), .c (sL 1 a_16)], .arr true 48 8 a_16.length (a_16.map api_Event.c)] (ca [0, 1] (thread_thread_tell_2.ev e_33))]
     ·obtain rfl := sj H
      exact fn [br h_31, ca [0, 1] (thread_thread_tell_2.ev e_33)]
    ·obtain rfl := sj H
     exact fn [br h_31]
   rcases o_28 with s_36 | s_37
   ·obtain rfl := sj H
    exact thread_thread_store_2.F.run tb mixed [ca [0, 1] (thread_thread_place_2.ev e_18), pf g_21, sgl thread_cell.c a_7 4 0 g_21, br h_23, sg_ 4 j_26, sc_ j_30] rfl (by kernel_rfl)
   ·obtain rfl := sj H
    exact thread_thread_store_2.F.run tb mixed [ca [0, 1] (thread_thread_place_2.ev e_18), pf g_21, sgl thread_cell.c a_7 4 0 g_21, br h_23, sg_ 4 j_26, sc_ j_30] rfl (by kernel_rfl)
  ·rcases ic H with ⟨h_38, H⟩ | ⟨h_38, H⟩
   ·let v_39 : Int := wr .i64 ((-1 : Int) - r_19)
    replace H := ltD H
    let v_40 : Int := bits .or .u64 v_22.hang a_2.hang
    replace H := ltD H
    obtain ⟨g_41, H⟩ := gdE H
    let v_42 : Arr thread_cell 400 := a_8.s v_39 (thread_cell.mk v_22.n v_40)
    replace H := ltD H
    obtain rfl := sj H
    exact thread_thread_store_2.F.run tb mixed [ca [0, 1] (thread_thread_place_2.ev e_18), pf g_21, sgl thread_cell.c a_7 4 0 g_21, br h_23, br h_38, pf g_41, sgs thread_cell.c a_8 5 0 [vi v_22.n, .v (.int .u64 v_40)] (thread_cell.mk v_22.n v_40) g_41 (by kernel_rfl)] rfl (by kernel_rfl)
   ·obtain ⟨r_43, e_44, H⟩ := bdE H
    rcases r_43 with r_45 | r_46
    ·obtain rfl := sj H
     exact thread_thread_store_2.F.run tb mixed [ca [0, 1] (thread_thread_place_2.ev e_18), pf g_21, sgl thread_cell.c a_7 4 0 g_21, br h_23, br h_38, ca [0, 1] (thread_thread_tell_2.ev e_44)] rfl (by kernel_rfl)
    ·obtain rfl := sj H
     exact thread_thread_store_2.F.run tb mixed [ca [0, 1] (thread_thread_place_2.ev e_18), pf g_21, sgl thread_cell.c a_7 4 0 g_21, br h_23, br h_38, ca [0, 1] (thread_thread_tell_2.ev e_44)] rfl (by kernel_rfl)
 ·obtain rfl := sj H
  exact thread_thread_store_2.F.run tb mixed [ca [0, 1] (thread_thread_place_2.ev e_18)] rfl (by kernel_rfl)
noncomputable def thread_thread_branch_2.F : FI Try.prog 68 := fi Try.f68 41 Try.call68 Try.func68
def thread_thread_branch_2.m (a_1 : Int) (a_2 : List api_Inst) (a_3 : Int) (a_4 : Int) (a_5 : List Int) (a_6 : Arr thread_cell 32) (a_7 : Arr thread_cell 400) (a_8 : Bool) (a_9 : Bool) (a_10 : Int) (a_11 : Int) (a_12 : Int) (a_13 : Int) (a_14 : Int) (a_15 : List api_Event) : Bool :=
 if a_1 = 0 then (a_8) else (if a_1 = 1 then ((!a_8)) else (if a_1 = 2 then (a_9) else ((!a_9))))
noncomputable def thread_thread_branch_2.o (a_1 : Int) (a_2 : List api_Inst) (a_3 : Int) (a_4 : Int) (a_5 : List Int) (a_6 : Arr thread_cell 32) (a_7 : Arr thread_cell 400) (a_8 : Bool) (a_9 : Bool) (a_10 : Int) (a_11 : Int) (a_12 : Int) (a_13 : Int) (a_14 : Int) (a_15 : List api_Event) (r : Bool) : Out := .ret (.v (.bool r)) [.seg [.c (.ro false 5 a_2.length (a_2.map api_Inst.c)), .c (vi a_3), .c (vi a_4), .c (.ro false 1 a_5.length (a_5.map (cI .i64))), .a 2 32 (a_6.l.map thread_cell.c), .a 2 400 (a_7.l.map thread_cell.c), .c (.v (.bool a_8)), .c (.v (.bool a_9)), .c (.v (.int .u64 a_10)), .c (.v (.int .u64 (bits .or .u64 a_11 a_10))), .c (.v (.int .u64 a_12)), .c (vi a_13), .c (vi a_14), .c (sL 1 a_15)], .arr true 48 8 a_15.length (a_15.map api_Event.c)] []
theorem thread_thread_branch_2.ev {a_1 : Int} {a_2 : List api_Inst} {a_3 : Int} {a_4 : Int} {a_5 : List Int} {a_6 : Arr thread_cell 32} {a_7 : Arr thread_cell 400} {a_8 : Bool} {a_9 : Bool} {a_10 : Int} {a_11 : Int} {a_12 : Int} {a_13 : Int} {a_14 : Int} {a_15 : List api_Event} {r : Bool} (H : thread_thread_branch_2.m a_1 a_2 a_3 a_4 a_5 a_6 a_7 a_8 a_9 a_10 a_11 a_12 a_13 a_14 a_15 = r) : Ev Try.prog 68 [.ref 0 0, vi a_1] [.seg [.c (.ro false 5 a_2.length (a_2.map api_Inst.c)), .c (vi a_3), .c (vi a_4), .c (.ro false 1 a_5.length (a_5.map (cI .i64))), .a 2 32 (a_6.l.map thread_cell.c), .a 2 400 (a_7.l.map thread_cell.c), .c (.v (.bool a_8)), .c (.v (.bool a_9)), .c (.v (.int .u64 a_10)), .c (.v (.int .u64 a_11)), .c (.v (.int .u64 a_12)), .c (vi a_13), .c (vi a_14), .c (sL 1 a_15)], .arr true 48 8 a_15.length (a_15.map api_Event.c)] [] (thread_thread_branch_2.o a_1 a_2 a_3 a_4 a_5 a_6 a_7 a_8 a_9 a_10 a_11 a_12 a_13 a_14 a_15 r) := by
 unfold thread_thread_branch_2.m at H
 rcases ic H with ⟨h_16, H⟩ | ⟨h_16, H⟩
 ·subst H
  exact thread_thread_branch_2.F.run tb mixed [br h_16] rfl (by kernel_rfl)
 ·rcases ic H with ⟨h_17, H⟩ | ⟨h_17, H⟩
  ·subst H
   exact thread_thread_branch_2.F.run tb mixed [br h_16, br h_17] rfl (by kernel_rfl)
  ·rcases ic H with ⟨h_18, H⟩ | ⟨h_18, H⟩
   ·subst H
    exact thread_thread_branch_2.F.run tb mixed [br h_16, br h_17, br h_18] rfl (by kernel_rfl)
   ·subst H
    exact thread_thread_branch_2.F.run tb mixed [br h_16, br h_17, br h_18] rfl (by kernel_rfl)
noncomputable def thread_thread_call_2.F : FI Try.prog 70 := fi Try.f70 29 Try.call70 Try.func70
def thread_thread_call_2.m (a_1 : List api_Inst) (a_2 : Int) (a_3 : Int) (a_4 : List Int) (a_5 : Arr thread_cell 32) (a_6 : Arr thread_cell 400) (a_7 : Bool) (a_8 : Bool) (a_9 : Int) (a_10 : Int) (a_11 : Int) (a_12 : Int) (a_13 : Int) (a_14 : List api_Event) : Option (Int ⊕ (List api_Event)) :=
 letC (a_5.g 0) fun v_15 => if v_15.n = 0 then (some (Sum.inl 1)) else (if v_15.n = 1 then (letC (a_5.g 3) fun v_18 => (thread_thread_tell_2.m (api_Event.mk 6 0 v_18.n 0 0 0 0 0) a_1 a_2 a_3 a_4 a_5 a_6 a_7 a_8 a_9 a_10 a_11 a_12 a_13 a_14).bind fun r_19 => match r_19 with | Sum.inl r_21 => (some (Sum.inl 5)) | Sum.inr (r_22) => (some (Sum.inr (r_22)))) else (if v_15.n = 2 then (some (Sum.inl 2)) else (if v_15.n = 3 then (some (Sum.inl 3)) else (some (Sum.inl 6)))))
noncomputable def thread_thread_call_2.o (a_1 : List api_Inst) (a_2 : Int) (a_3 : Int) (a_4 : List Int) (a_5 : Arr thread_cell 32) (a_6 : Arr thread_cell 400) (a_7 : Bool) (a_8 : Bool) (a_9 : Int) (a_10 : Int) (a_11 : Int) (a_12 : Int) (a_13 : Int) (a_14 : List api_Event) (r : Int ⊕ (List api_Event)) : Out := match r with | Sum.inl r => .pan (.ifc 97 (vi r)) [.seg [.c (.ro false 5 a_1.length (a_1.map api_Inst.c)), .c (vi a_2), .c (vi a_3), .c (.ro false 1 a_4.length (a_4.map (cI .i64))), .a 2 32 (a_5.l.map thread_cell.c), .a 2 400 (a_6.l.map thread_cell.c), .c (.v (.bool a_7)), .c (.v (.bool a_8)), .c (.v (.int .u64 a_9)), .c (.v (.int .u64 a_10)), .c (.v (.int .u64 a_11)), .c (vi a_12), .c (vi a_13), .c (sL 1 a_14)], .arr true 48 8 a_14.length (a_14.map api_Event.c)] [] | Sum.inr (r) => .ret (.tup []) [.seg [.c (.ro false 5 a_1.length (a_1.map api_Inst.c)), .c (vi a_2), .c (vi a_3), .c (.ro false 1 a_4.length (a_4.map (cI .i64))), .a 2 32 (a_5.l.map thread_cell.c), .a 2 400 (a_6.l.map thread_cell.c), .c (.v (.bool a_7)), .c (.v (.bool a_8)), .c (.v (.int .u64 a_9)), .c (.v (.int .u64 a_10)), .c (.v (.int .u64 a_11)), .c (vi a_12), .c (vi a_13), .c (sL 1 r)], .arr true 48 8 r.length (r.map api_Event.c)] []
theorem thread_thread_call_2.ev {a_1 : List api_Inst} {a_2 : Int} {a_3 : Int} {a_4 : List Int} {a_5 : Arr thread_cell 32} {a_6 : Arr thread_cell 400} {a_7 : Bool} {a_8 : Bool} {a_9 : Int} {a_10 : Int} {a_11 : Int} {a_12 : Int} {a_13 : Int} {a_14 : List api_Event} {r : Int ⊕ (List api_Event)} (H : thread_thread_call_2.m a_1 a_2 a_3 a_4 a_5 a_6 a_7 a_8 a_9 a_10 a_11 a_12 a_13 a_14 = some r) : Ev Try.prog 70 [.ref 0 0] [.seg [.c (.ro false 5 a_1.length (a_1.map api_Inst.c)), .c (vi a_2), .c (vi a_3), .c (.ro false 1 a_4.length (a_4.map (cI .i64))), .a 2 32 (a_5.l.map thread_cell.c), .a 2 400 (a_6.l.map thread_cell.c), .c (.v (.bool a_7)), .c (.v (.bool a_8)), .c (.v (.int .u64 a_9)), .c (.v (.int .u64 a_10)), .c (.v (.int .u64 a_11)), .c (vi a_12), .c (vi a_13), .c (sL 1 a_14)], .arr true 48 8 a_14.length (a_14.map api_Event.c)] [] (thread_thread_call_2.o a_1 a_2 a_3 a_4 a_5 a_6 a_7 a_8 a_9 a_10 a_11 a_12 a_13 a_14 r) := by
 unfold thread_thread_call_2.m at H
 let v_15 : thread_cell := a_5.g 0
 replace H := ltD H
 rcases ic H with ⟨h_16, H⟩ | ⟨h_16, H⟩
 ·obtain rfl := sj H
  exact thread_thread_call_2.F.run tb mixed [pf (by decide : 0 ≤ (0 : Int) ∧ (0 : Int) < ((32 : Nat) : Int)), sgl thread_cell.c a_5 4 0 (by decide : 0 ≤ (0 : Int) ∧ (0 : Int) < ((32 : Nat) : Int)), br h_16] rfl (by kernel_rfl)
 ·rcases ic H with ⟨h_17, H⟩ | ⟨h_17, H⟩
  ·let v_18 : thread_cell := a_5.g 3
   replace H := ltD H
   obtain ⟨r_19, e_20, H⟩ := bdE H
   rcases r_19 with r_21 | r_22
   ·obtain rfl := sj H
    exact thread_thread_call_2.F.run tb mixed [pf (by decide : 0 ≤ (0 : Int) ∧ (0 : Int) < ((32 : Nat) : Int)), sgl thread_cell.c a_5 4 0 (by decide : 0 ≤ (0 : Int) ∧ (0 : Int) < ((32 : Nat) : Int)), br h_16, br h_17, pf (by decide : 0 ≤ (3 : Int) ∧ (3 : Int) < ((32 : Nat) : Int)), sgl thread_cell.c a_5 4 0 (by decide : 0 ≤ (3 : Int) ∧ (3 : Int) < ((32 : Nat) : Int)), ca [0, 1] (thread_thread_tell_2.ev e_20)] rfl (by kernel_rfl)
   ·obtain rfl := sj H
    exact thread_thread_call_2.F.run tb mixed [pf (by decide : 0 ≤ (0 : Int) ∧ (0 : Int) < ((32 : Nat) : Int)), sgl thread_cell.c a_5 4 0 (by decide : 0 ≤ (0 : Int) ∧ (0 : Int) < ((32 : Nat) : Int)), br h_16, br h_17, pf (by decide : 0 ≤ (3 : Int) ∧ (3 : Int) < ((32 : Nat) : Int)), sgl thread_cell.c a_5 4 0 (by decide : 0 ≤ (3 : Int) ∧ (3 : Int) < ((32 : Nat) : Int)), ca [0, 1] (thread_thread_tell_2.ev e_20)] rfl (by kernel_rfl)
  ·rcases ic H with ⟨h_23, H⟩ | ⟨h_23, H⟩
   ·obtain rfl := sj H
    exact thread_thread_call_2.F.run tb mixed [pf (by decide : 0 ≤ (0 : Int) ∧ (0 : Int) < ((32 : Nat) : Int)), sgl thread_cell.c a_5 4 0 (by decide : 0 ≤ (0 : Int) ∧ (0 : Int) < ((32 : Nat) : Int)), br h_16, br h_17, br h_23] rfl (by kernel_rfl)
   ·rcases ic H with ⟨h_24, H⟩ | ⟨h_24, H⟩
    ·obtain rfl := sj H
     exact thread_thread_call_2.F.run tb mixed [pf (by decide : 0 ≤ (0 : Int) ∧ (0 : Int) < ((32 : Nat) : Int)), sgl thread_cell.c a_5 4 0 (by decide : 0 ≤ (0 : Int) ∧ (0 : Int) < ((32 : Nat) : Int)), br h_16, br h_17, br h_23, br h_24] rfl (by kernel_rfl)
    ·obtain rfl := sj H
     exact thread_thread_call_2.F.run tb mixed [pf (by decide : 0 ≤ (0 : Int) ∧ (0 : Int) < ((32 : Nat) : Int)), sgl thread_cell.c a_5 4 0 (by decide : 0 ≤ (0 : Int) ∧ (0 : Int) < ((32 : Nat) : Int)), br h_16, br h_17, br h_23, br h_24] rfl (by kernel_rfl)
noncomputable def thread_thread_step_2.F : FI Try.prog 31 := fi Try.f31 316 Try.call31 Try.func31
def thread_thread_step_2.m (a_1 : api_Inst) (a_2 : List api_Inst) (a_3 : Int) (a_4 : Int) (a_5 : List Int) (a_6 : Arr thread_cell 32) (a_7 : Arr thread_cell 400) (a_8 : Bool) (a_9 : Bool) (a_10 : Int) (a_11 : Int) (a_12 : Int) (a_13 : Int) (a_14 : Int) (a_15 : List api_Event) : Option (((List Int) × (Arr thread_cell 32) × (Arr thread_cell 400) × Bool × Bool × Int × Int × Int × Int × Int × (List api_Event) × Int) ⊕ Int) :=
 if 0 ≤ a_1.A ∧ a_1.A < ((32 : Nat) : Int) then (letC (a_6.g a_1.A) fun v_17 => if 0 ≤ a_1.B ∧ a_1.B < ((32 : Nat) : Int) then (letC (a_6.g a_1.B) fun v_19 => (thread_thread_or_2.m a_1.A a_2 a_3 a_4 a_5 a_6 a_7 a_8 a_9 a_10 a_11 a_12 a_13 a_14 a_15).bind fun r_20 => if a_1.Op = 1 then (if 0 ≤ a_1.T ∧ a_1.T < ((32 : Nat) : Int) then (letC (a_6.s a_1.T (thread_cell.mk (wr .i64 (r_20.n + a_1.Imm)) r_20.hang)) fun v_24 => some (Sum.inl (a_5, v_24, a_7, a_8, a_9, a_10, a_11, a_12, a_13, a_14, a_15, 1))) else none) else (if a_1.Op = 2 then (letC (wr .i64 (a_1.Imm * 2 ^ (min (16 : Int).toNat 64))) fun v_26 => if 0 ≤ a_1.T ∧ a_1.T < ((32 : Nat) : Int) then (letC (a_6.s a_1.T (thread_cell.mk (wr .i64 (r_20.n + v_26)) r_20.hang)) fun v_28 => some (Sum.inl (a_5, v_28, a_7, a_8, a_9, a_10, a_11, a_12, a_13, a_14, a_15, 1))) else none) else (if a_1.Op = 3 then (letC (bits .or .i64 v_17.n a_1.Imm) fun v_30 => if 0 ≤ a_1.T ∧ a_1.T < ((32 : Nat) : Int) then (letC (a_6.s a_1.T (thread_cell.mk v_30 v_17.hang)) fun v_32 => some (Sum.inl (a_5, v_32, a_7, a_8, a_9, a_10, a_11, a_12, a_13, a_14, a_15, 1))) else none) else (if a_1.Op = 4 then (letC (wr .i64 (a_1.Imm * 2 ^ (min (16 : Int).toNat 64))) fun v_34 => if 0 ≤ a_1.T ∧ a_1.T < ((32 : Nat) : Int) then (letC (a_6.s a_1.T (thread_cell.mk (bits .or .i64 v_17.n v_34) v_17.hang)) fun v_36 => some (Sum.inl (a_5, v_36, a_7, a_8, a_9, a_10, a_11, a_12, a_13, a_14, a_15, 1))) else none) else (if a_1.Op = 5 then (if 0 ≤ (wr .u64 a_1.Imm) then (letC (wr .i64 (v_17.n * 2 ^ (min (wr .u64 a_1.Imm).toNat 64))) fun v_39 => if 0 ≤ a_1.T ∧ a_1.T < ((32 : Nat) : Int) then (letC (a_6.s a_1.T (thread_cell.mk v_39 v_17.hang)) fun v_41 => some (Sum.inl (a_5, v_41, a_7, a_8, a_9, a_10, a_11, a_12, a_13, a_14, a_15, 1))) else none) else none) else (if a_1.Op = 6 then (letC (thread_two.m (wr .i64 (v_17.n + v_19.n)) v_17 v_19) fun r_43 => if 0 ≤ a_1.T ∧ a_1.T < ((32 : Nat) : Int) then (letC (a_6.s a_1.T r_43) fun v_46 => some (Sum.inl (a_5, v_46, a_7, a_8, a_9, a_10, a_11, a_12, a_13, a_14, a_15, 1))) else none) else (if a_1.Op = 7 then (letC (thread_two.m (wr .i64 (v_19.n - v_17.n)) v_17 v_19) fun r_48 => if 0 ≤ a_1.T ∧ a_1.T < ((32 : Nat) : Int) then (letC (a_6.s a_1.T r_48) fun v_51 => some (Sum.inl (a_5, v_51, a_7, a_8, a_9, a_10, a_11, a_12, a_13, a_14, a_15, 1))) else none) else (if a_1.Op = 8 then (letC (thread_two.m (wr .i64 (v_17.n * v_19.n)) v_17 v_19) fun r_53 => if 0 ≤ a_1.T ∧ a_1.T < ((32 : Nat) : Int) then (letC (a_6.s a_1.T r_53) fun v_56 => some (Sum.inl (a_5, v_56, a_7, a_8, a_9, a_10, a_11, a_12, a_13, a_14, a_15, 1))) else none) else (if a_1.Op = 9 then ((thread_quotient.m v_17.n v_19.n).bind fun r_58 => letC (thread_two.m r_58 v_17 v_19) fun r_60 => if 0 ≤ a_1.T ∧ a_1.T < ((32 : Nat) : Int) then (letC (a_6.s a_1.T r_60) fun v_63 => some (Sum.inl (a_5, v_63, a_7, a_8, a_9, a_10, a_11, a_12, a_13, a_14, a_15, 1))) else none) else (if a_1.Op = 16 then (letC (bits .or .u64 v_17.hang v_19.hang) fun v_65 => some (Sum.inl (a_5, a_6, a_7, (decide (v_17.n < v_19.n)), (decide (v_17.n = v_19.n)), v_65, a_11, a_12, a_13, a_14, a_15, 1))) else (if a_1.Op = 17 then (some (Sum.inl (a_5, a_6, a_7, (decide (v_17.n < a_1.Imm)), (decide (v_17.n = a_1.Imm)), v_17.hang, a_11, a_12, a_13, a_14, a_15, 1))) else (if a_1.Op = 10 then ((thread_thread_load_2.m a_1 (thread_cell.mk (wr .i64 (r_20.n + a_1.Imm)) r_20.hang) a_2 a_3 a_4 a_5 a_6 a_7 a_8 a_9 a_10 a_11 a_12 a_13 a_14 a_15).bind fun r_68 => match r_68 with | Sum.inl r_70 => (some (Sum.inl (r_70.1, r_70.2.1, a_7, a_8, a_9, a_10, a_11, a_12, r_70.2.2.1, r_70.2.2.2.1, r_70.2.2.2.2, 1))) | Sum.inr (r_71) => (some (Sum.inr (r_71)))) else (if a_1.Op = 11 then ((thread_thread_store_2.m a_1 (thread_cell.mk (wr .i64 (r_20.n + a_1.Imm)) r_20.hang) a_2 a_3 a_4 a_5 a_6 a_7 a_8 a_9 a_10 a_11 a_12 a_13 a_14 a_15).bind fun r_73 => match r_73 with | Sum.inl r_75 => (some (Sum.inr (r_75))) | Sum.inr (r_76) => (some (Sum.inl (a_5, a_6, r_76.1, r_76.2.1, r_76.2.2.1, r_76.2.2.2.1, a_11, a_12, r_76.2.2.2.2.1, a_14, r_76.2.2.2.2.2, 1)))) else ((if a_1.Op = 12 then (some (true : Bool)) else (some ((decide (a_1.Op = 14)) : Bool)) : Option Bool).bind fun o_77 => if o_77 = true then (letC (thread_two.m (wr .i64 (r_20.n + v_19.n)) r_20 v_19) fun r_82 => (thread_thread_load_2.m a_1 r_82 a_2 a_3 a_4 a_5 a_6 a_7 a_8 a_9 a_10 a_11 a_12 a_13 a_14 a_15).bind fun r_84 => match r_84 with | Sum.inl r_86 => (some (Sum.inl (r_86.1, r_86.2.1, a_7, a_8, a_9, a_10, a_11, a_12, r_86.2.2.1, r_86.2.2.2.1, r_86.2.2.2.2, 1))) | Sum.inr (r_87) => (some (Sum.inr (r_87)))) else ((if a_1.Op = 13 then (some (true : Bool)) else (some ((decide (a_1.Op = 15)) : Bool)) : Option Bool).bind fun o_88 => if o_88 = true then (letC (thread_two.m (wr .i64 (r_20.n + v_19.n)) r_20 v_19) fun r_93 => (thread_thread_store_2.m a_1 r_93 a_2 a_3 a_4 a_5 a_6 a_7 a_8 a_9 a_10 a_11 a_12 a_13 a_14 a_15).bind fun r_95 => match r_95 with | Sum.inl r_97 => (some (Sum.inr (r_97))) | Sum.inr (r_98) => (some (Sum.inl (a_5, a_6, r_98.1, r_98.2.1, r_98.2.2.1, r_98.2.2.2.1, a_11, a_12, r_98.2.2.2.2.1, a_14, r_98.2.2.2.2.2, 1)))) else (if a_1.Op = 18 then (letC (thread_thread_branch_2.m a_1.T a_2 a_3 a_4 a_5 a_6 a_7 a_8 a_9 a_10 a_11 a_12 a_13 a_14 a_15) fun r_100 => if r_100 = true then (letC (wr .i64 (Int.tdiv a_1.Imm (4 : Int))) fun v_103 => some (Sum.inl (a_5, a_6, a_7, a_8, a_9, a_10, (bits .or .u64 a_11 a_10), a_12, a_13, a_14, a_15, v_103))) else (some (Sum.inl (a_5, a_6, a_7, a_8, a_9, a_10, (bits .or .u64 a_11 a_10), a_12, a_13, a_14, a_15, 1)))) else (if a_1.Op = 19 then (letC (wr .i64 (Int.tdiv a_1.Imm (4 : Int))) fun v_105 => some (Sum.inl (a_5, a_6, a_7, a_8, a_9, a_10, a_11, a_12, a_13, a_14, a_15, v_105))) else (if a_1.Op = 20 then ((thread_thread_tell_2.m (api_Event.mk 3 0 0 0 0 0 0 0) a_2 a_3 a_4 a_5 a_6 a_7 a_8 a_9 a_10 a_11 a_12 a_13 a_14 a_15).bind fun r_107 => match r_107 with | Sum.inl r_109 => (some (Sum.inr (5))) | Sum.inr (r_110) => (some (Sum.inl (a_5, a_6, a_7, a_8, a_9, a_10, a_11, a_12, a_13, a_14, r_110, 1)))) else (if a_1.Op = 21 then ((thread_thread_tell_2.m (api_Event.mk 4 0 0 0 0 0 0 0) a_2 a_3 a_4 a_5 a_6 a_7 a_8 a_9 a_10 a_11 a_12 a_13 a_14 a_15).bind fun r_112 => match r_112 with | Sum.inl r_114 => (some (Sum.inr (5))) | Sum.inr (r_115) => (some (Sum.inl (a_5, a_6, a_7, a_8, a_9, a_10, a_11, a_12, a_13, a_14, r_115, 1)))) else (if a_1.Op = 22 then ((thread_thread_tell_2.m (api_Event.mk 5 0 0 0 0 0 0 0) a_2 a_3 a_4 a_5 a_6 a_7 a_8 a_9 a_10 a_11 a_12 a_13 a_14 a_15).bind fun r_117 => match r_117 with | Sum.inl r_119 => (some (Sum.inr (5))) | Sum.inr (r_120) => (some (Sum.inl (a_5, a_6, a_7, a_8, a_9, a_10, a_11, (bits .or .u64 a_12 a_11), a_13, a_14, r_120, 1)))) else (if a_1.Op = 23 then ((thread_thread_call_2.m a_2 a_3 a_4 a_5 a_6 a_7 a_8 a_9 a_10 a_11 a_12 a_13 a_14 a_15).bind fun r_122 => match r_122 with | Sum.inl r_124 => (some (Sum.inr (r_124))) | Sum.inr (r_125) => (some (Sum.inl (a_5, a_6, a_7, a_8, a_9, a_10, a_11, a_12, a_13, a_14, r_125, 1)))) else (some (Sum.inl (a_5, a_6, a_7, a_8, a_9, a_10, a_11, a_12, a_13, a_14, a_15, 1)))))))))))))))))))))))) else none) else none
noncomputable def thread_thread_step_2.o (a_1 : api_Inst) (a_2 : List api_Inst) (a_3 : Int) (a_4 : Int) (a_5 : List Int) (a_6 : Arr thread_cell 32) (a_7 : Arr thread_cell 400) (a_8 : Bool) (a_9 : Bool) (a_10 : Int) (a_11 : Int) (a_12 : Int) (a_13 : Int) (a_14 : Int) (a_15 : List api_Event) (r : ((List Int) × (Arr thread_cell 32) × (Arr thread_cell 400) × Bool × Bool × Int × Int × Int × Int × Int × (List api_Event) × Int) ⊕ Int) : Out := match r with | Sum.inl r => .ret (vi r.2.2.2.2.2.2.2.2.2.2.2) [.seg [.c (.ro false 5 a_2.length (a_2.map api_Inst.c)), .c (vi a_3), .c (vi a_4), .c (.ro false 1 r.1.length (r.1.map (cI .i64))), .a 2 32 (r.2.1.l.map thread_cell.c), .a 2 400 (r.2.2.1.l.map thread_cell.c), .c (.v (.bool r.2.2.2.1)), .c (.v (.bool r.2.2.2.2.1)), .c (.v (.int .u64 r.2.2.2.2.2.1)), .c (.v (.int .u64 r.2.2.2.2.2.2.1)), .c (.v (.int .u64 r.2.2.2.2.2.2.2.1)), .c (vi r.2.2.2.2.2.2.2.2.1), .c (vi r.2.2.2.2.2.2.2.2.2.1), .c (sL 1 r.2.2.2.2.2.2.2.2.2.2.1)], .arr true 48 8 r.2.2.2.2.2.2.2.2.2.2.1.length (r.2.2.2.2.2.2.2.2.2.2.1.map api_Event.c)] [] | Sum.inr (r) => .pan (.ifc 97 (vi r)) [.seg [.c (.ro false 5 a_2.length (a_2.map api_Inst.c)), .c (vi a_3), .c (vi a_4), .c (.ro false 1 a_5.length (a_5.map (cI .i64))), .a 2 32 (a_6.l.map thread_cell.c), .a 2 400 (a_7.l.map thread_cell.c), .c (.v (.bool a_8)), .c (.v (.bool a_9)), .c (.v (.int .u64 a_10)), .c (.v (.int .u64 a_11)), .c (.v (.int .u64 a_12)), .c (vi a_13), .c (vi a_14), .c (sL 1 a_15)], .arr true 48 8 a_15.length (a_15.map api_Event.c)] []
theorem thread_thread_step_2.ev {a_1 : api_Inst} {a_2 : List api_Inst} {a_3 : Int} {a_4 : Int} {a_5 : List Int} {a_6 : Arr thread_cell 32} {a_7 : Arr thread_cell 400} {a_8 : Bool} {a_9 : Bool} {a_10 : Int} {a_11 : Int} {a_12 : Int} {a_13 : Int} {a_14 : Int} {a_15 : List api_Event} {r : ((List Int) × (Arr thread_cell 32) × (Arr thread_cell 400) × Bool × Bool × Int × Int × Int × Int × Int × (List api_Event) × Int) ⊕ Int} (H : thread_thread_step_2.m a_1 a_2 a_3 a_4 a_5 a_6 a_7 a_8 a_9 a_10 a_11 a_12 a_13 a_14 a_15 = some r) : Ev Try.prog 31 [.ref 0 0, .agg (api_Inst.c a_1)] [.seg [.c (.ro false 5 a_2.length (a_2.map api_Inst.c)), .c (vi a_3), .c (vi a_4), .c (.ro false 1 a_5.length (a_5.map (cI .i64))), .a 2 32 (a_6.l.map thread_cell.c), .a 2 400 (a_7.l.map thread_cell.c), .c (.v (.bool a_8)), .c (.v (.bool a_9)), .c (.v (.int .u64 a_10)), .c (.v (.int .u64 a_11)), .c (.v (.int .u64 a_12)), .c (vi a_13), .c (vi a_14), .c (sL 1 a_15)], .arr true 48 8 a_15.length (a_15.map api_Event.c)] [] (thread_thread_step_2.o a_1 a_2 a_3 a_4 a_5 a_6 a_7 a_8 a_9 a_10 a_11 a_12 a_13 a_14 a_15 r) := by
 unfold thread_thread_step_2.m at H
 obtain ⟨g_16, H⟩ := gdE H
 let v_17 : thread_cell := a_6.g a_1.A
 replace H := ltD H
 obtain ⟨g_18, H⟩ := gdE H
 let v_19 : thread_cell := a_6.g a_1.B
 replace H := ltD H
 obtain ⟨r_20, e_21, H⟩ := bdE H
 rcases ic H with ⟨h_22, H⟩ | ⟨h_22, H⟩
 ·obtain ⟨g_23, H⟩ := gdE H
  let v_24 : Arr thread_cell 32 := a_6.s a_1.T (thread_cell.mk (wr .i64 (r_20.n + a_1.Imm)) r_20.hang)
  replace H := ltD H
  obtain rfl := sj H
  exact thread_thread_step_2.F.run tb mixed [pf g_16, sgl thread_cell.c a_6 4 0 g_16, pf g_18, sgl thread_cell.c a_6 4 0 g_18, kp [0, 1] [.seg [.c (.ro false 5 a_2.length (a_2.map api_Inst.c)), .c (vi a_3), .c (vi a_4), .c (.ro false 1 a_5.length (a_5.map (cI .i64))), .a 2 32 (a_6.l.map thread_cell.c), .a 2 400 (a_7.l.map thread_cell.c), .c (.v (.bool a_8)), .c (.v (.bool a_9)), .c (.v (.int .u64 a_10)), .c (.v (.int .u64 a_11)), .c (.v (.int .u64 a_12)), .c (vi a_13), .c (vi a_14), .c (sL 1 a_15)], .arr true 48 8 a_15.length (a_15.map api_Event.c)] (ca [0, 1] (thread_thread_or_2.ev e_21)), br h_22, pf g_23, sgs thread_cell.c a_6 4 0 [vi (wr .i64 (r_20.n + a_1.Imm)), .v (.int .u64 r_20.hang)] (thread_cell.mk (wr .i64 (r_20.n + a_1.Imm)) r_20.hang) g_23 (by kernel_rfl)] rfl (by kernel_rfl)
 ·rcases ic H with ⟨h_25, H⟩ | ⟨h_25, H⟩
  ·let v_26 : Int := wr .i64 (a_1.Imm * 2 ^ (min (16 : Int).toNat 64))
   replace H := ltD H
   obtain ⟨g_27, H⟩ := gdE H
   let v_28 : Arr thread_cell 32 := a_6.s a_1.T (thread_cell.mk (wr .i64 (r_20.n + v_26)) r_20.hang)
   replace H := ltD H
   obtain rfl := sj H
   exact thread_thread_step_2.F.run tb mixed [pf g_16, sgl thread_cell.c a_6 4 0 g_16, pf g_18, sgl thread_cell.c a_6 4 0 g_18, kp [0, 1] [.seg [.c (.ro false 5 a_2.length (a_2.map api_Inst.c)), .c (vi a_3), .c (vi a_4), .c (.ro false 1 a_5.length (a_5.map (cI .i64))), .a 2 32 (a_6.l.map thread_cell.c), .a 2 400 (a_7.l.map thread_cell.c), .c (.v (.bool a_8)), .c (.v (.bool a_9)), .c (.v (.int .u64 a_10)), .c (.v (.int .u64 a_11)), .c (.v (.int .u64 a_12)), .c (vi a_13), .c (vi a_14), .c (sL 1 a_15)], .arr true 48 8 a_15.length (a_15.map api_Event.c)] (ca [0, 1] (thread_thread_or_2.ev e_21)), br h_22, br h_25, pf (by decide : 0 ≤ (16 : Int)), pf g_27, sgs thread_cell.c a_6 4 0 [vi (wr .i64 (r_20.n + v_26)), .v (.int .u64 r_20.hang)] (thread_cell.mk (wr .i64 (r_20.n + v_26)) r_20.hang) g_27 (by kernel_rfl)] rfl (by kernel_rfl)
  ·rcases ic H with ⟨h_29, H⟩ | ⟨h_29, H⟩
   ·let v_30 : Int := bits .or .i64 v_17.n a_1.Imm
    replace H := ltD H
    obtain ⟨g_31, H⟩ := gdE H
    let v_32 : Arr thread_cell 32 := a_6.s a_1.T (thread_cell.mk v_30 v_17.hang)
    replace H := ltD H
    obtain rfl := sj H
    exact thread_thread_step_2.F.run tb mixed [pf g_16, sgl thread_cell.c a_6 4 0 g_16, pf g_18, sgl thread_cell.c a_6 4 0 g_18, kp [0, 1] [.seg [.c (.ro false 5 a_2.length (a_2.map api_Inst.c)), .c (vi a_3), .c (vi a_4), .c (.ro false 1 a_5.length (a_5.map (cI .i64))), .a 2 32 (a_6.l.map thread_cell.c), .a 2 400 (a_7.l.map thread_cell.c), .c (.v (.bool a_8)), .c (.v (.bool a_9)), .c (.v (.int .u64 a_10)), .c (.v (.int .u64 a_11)), .c (.v (.int .u64 a_12)), .c (vi a_13), .c (vi a_14), .c (sL 1 a_15)], .arr true 48 8 a_15.length (a_15.map api_Event.c)] (ca [0, 1] (thread_thread_or_2.ev e_21)), br h_22, br h_25, br h_29, pf g_31, sgs thread_cell.c a_6 4 0 [vi v_30, .v (.int .u64 v_17.hang)] (thread_cell.mk v_30 v_17.hang) g_31 (by kernel_rfl)] rfl (by kernel_rfl)
   ·rcases ic H with ⟨h_33, H⟩ | ⟨h_33, H⟩
    ·let v_34 : Int := wr .i64 (a_1.Imm * 2 ^ (min (16 : Int).toNat 64))
     replace H := ltD H
     obtain ⟨g_35, H⟩ := gdE H
     let v_36 : Arr thread_cell 32 := a_6.s a_1.T (thread_cell.mk (bits .or .i64 v_17.n v_34) v_17.hang)
     replace H := ltD H
     obtain rfl := sj H
     exact thread_thread_step_2.F.run tb mixed [pf g_16, sgl thread_cell.c a_6 4 0 g_16, pf g_18, sgl thread_cell.c a_6 4 0 g_18, kp [0, 1] [.seg [.c (.ro false 5 a_2.length (a_2.map api_Inst.c)), .c (vi a_3), .c (vi a_4), .c (.ro false 1 a_5.length (a_5.map (cI .i64))), .a 2 32 (a_6.l.map thread_cell.c), .a 2 400 (a_7.l.map thread_cell.c), .c (.v (.bool a_8)), .c (.v (.bool a_9)), .c (.v (.int .u64 a_10)), .c (.v (.int .u64 a_11)), .c (.v (.int .u64 a_12)), .c (vi a_13), .c (vi a_14), .c (sL 1 a_15)], .arr true 48 8 a_15.length (a_15.map api_Event.c)] (ca [0, 1] (thread_thread_or_2.ev e_21)), br h_22, br h_25, br h_29, br h_33, pf (by decide : 0 ≤ (16 : Int)), pf g_35, sgs thread_cell.c a_6 4 0 [vi (bits .or .i64 v_17.n v_34), .v (.int .u64 v_17.hang)] (thread_cell.mk (bits .or .i64 v_17.n v_34) v_17.hang) g_35 (by kernel_rfl)] rfl (by kernel_rfl)
    ·rcases ic H with ⟨h_37, H⟩ | ⟨h_37, H⟩
     ·obtain ⟨g_38, H⟩ := gdE H
      let v_39 : Int := wr .i64 (v_17.n * 2 ^ (min (wr .u64 a_1.Imm).toNat 64))
      replace H := ltD H
      obtain ⟨g_40, H⟩ := gdE H
      let v_41 : Arr thread_cell 32 := a_6.s a_1.T (thread_cell.mk v_39 v_17.hang)
      replace H := ltD H
      obtain rfl := sj H
      exact thread_thread_step_2.F.run tb mixed [pf g_16, sgl thread_cell.c a_6 4 0 g_16, pf g_18, sgl thread_cell.c a_6 4 0 g_18, kp [0, 1] [.seg [.c (.ro false 5 a_2.length (a_2.map api_Inst.c)), .c (vi a_3), .c (vi a_4), .c (.ro false 1 a_5.length (a_5.map (cI .i64))), .a 2 32 (a_6.l.map thread_cell.c), .a 2 400 (a_7.l.map thread_cell.c), .c (.v (.bool a_8)), .c (.v (.bool a_9)), .c (.v (.int .u64 a_10)), .c (.v (.int .u64 a_11)), .c (.v (.int .u64 a_12)), .c (vi a_13), .c (vi a_14), .c (sL 1 a_15)], .arr true 48 8 a_15.length (a_15.map api_Event.c)] (ca [0, 1] (thread_thread_or_2.ev e_21)), br h_22, br h_25, br h_29, br h_33, br h_37, pf g_38, pf g_40, sgs thread_cell.c a_6 4 0 [vi v_39, .v (.int .u64 v_17.hang)] (thread_cell.mk v_39 v_17.hang) g_40 (by kernel_rfl)] rfl (by kernel_rfl)
     ·rcases ic H with ⟨h_42, H⟩ | ⟨h_42, H⟩
      ·obtain ⟨r_43, e_44, H⟩ := ltE H
       obtain ⟨g_45, H⟩ := gdE H
       let v_46 : Arr thread_cell 32 := a_6.s a_1.T r_43
       replace H := ltD H
       obtain rfl := sj H
       exact thread_thread_step_2.F.run tb mixed [pf g_16, sgl thread_cell.c a_6 4 0 g_16, pf g_18, sgl thread_cell.c a_6 4 0 g_18, kp [0, 1] [.seg [.c (.ro false 5 a_2.length (a_2.map api_Inst.c)), .c (vi a_3), .c (vi a_4), .c (.ro false 1 a_5.length (a_5.map (cI .i64))), .a 2 32 (a_6.l.map thread_cell.c), .a 2 400 (a_7.l.map thread_cell.c), .c (.v (.bool a_8)), .c (.v (.bool a_9)), .c (.v (.int .u64 a_10)), .c (.v (.int .u64 a_11)), .c (.v (.int .u64 a_12)), .c (vi a_13), .c (vi a_14), .c (sL 1 a_15)], .arr true 48 8 a_15.length (a_15.map api_Event.c)] (ca [0, 1] (thread_thread_or_2.ev e_21)), br h_22, br h_25, br h_29, br h_33, br h_37, br h_42, ca [] (thread_two.ev e_44), pf g_45, sgs thread_cell.c a_6 4 0 [vi r_43.n, .v (.int .u64 r_43.hang)] r_43 g_45 (by kernel_rfl)] rfl (by kernel_rfl)
      ·rcases ic H with ⟨h_47, H⟩ | ⟨h_47, H⟩
       ·obtain ⟨r_48, e_49, H⟩ := ltE H
        obtain ⟨g_50, H⟩ := gdE H
        let v_51 : Arr thread_cell 32 := a_6.s a_1.T r_48
        replace H := ltD H
        obtain rfl := sj H
        exact thread_thread_step_2.F.run tb mixed [pf g_16, sgl thread_cell.c a_6 4 0 g_16, pf g_18, sgl thread_cell.c a_6 4 0 g_18, kp [0, 1] [.seg [.c (.ro false 5 a_2.length (a_2.map api_Inst.c)), .c (vi a_3), .c (vi a_4), .c (.ro false 1 a_5.length (a_5.map (cI .i64))), .a 2 32 (a_6.l.map thread_cell.c), .a 2 400 (a_7.l.map thread_cell.c), .c (.v (.bool a_8)), .c (.v (.bool a_9)), .c (.v (.int .u64 a_10)), .c (.v (.int .u64 a_11)), .c (.v (.int .u64 a_12)), .c (vi a_13), .c (vi a_14), .c (sL 1 a_15)], .arr true 48 8 a_15.length (a_15.map api_Event.c)] (ca [0, 1] (thread_thread_or_2.ev e_21)), br h_22, br h_25, br h_29, br h_33, br h_37, br h_42, br h_47, ca [] (thread_two.ev e_49), pf g_50, sgs thread_cell.c a_6 4 0 [vi r_48.n, .v (.int .u64 r_48.hang)] r_48 g_50 (by kernel_rfl)] rfl (by kernel_rfl)
       ·rcases ic H with ⟨h_52, H⟩ | ⟨h_52, H⟩
        ·obtain ⟨r_53, e_54, H⟩ := ltE H
         obtain ⟨g_55, H⟩ := gdE H
         let v_56 : Arr thread_cell 32 := a_6.s a_1.T r_53
         replace H := ltD H
         obtain rfl := sj H
         exact thread_thread_step_2.F.run tb mixed [pf g_16, sgl thread_cell.c a_6 4 0 g_16, pf g_18, sgl thread_cell.c a_6 4 0 g_18, kp [0, 1] [.seg [.c (.ro false 5 a_2.length (a_2.map api_Inst.c)), .c (vi a_3), .c (vi a_4), .c (.ro false 1 a_5.length (a_5.map (cI .i64))), .a 2 32 (a_6.l.map thread_cell.c), .a 2 400 (a_7.l.map thread_cell.c), .c (.v (.bool a_8)), .c (.v (.bool a_9)), .c (.v (.int .u64 a_10)), .c (.v (.int .u64 a_11)), .c (.v (.int .u64 a_12)), .c (vi a_13), .c (vi a_14), .c (sL 1 a_15)], .arr true 48 8 a_15.length (a_15.map api_Event.c)] (ca [0, 1] (thread_thread_or_2.ev e_21)), br h_22, br h_25, br h_29, br h_33, br h_37, br h_42, br h_47, br h_52, ca [] (thread_two.ev e_54), pf g_55, sgs thread_cell.c a_6 4 0 [vi r_53.n, .v (.int .u64 r_53.hang)] r_53 g_55 (by kernel_rfl)] rfl (by kernel_rfl)
        ·rcases ic H with ⟨h_57, H⟩ | ⟨h_57, H⟩
         ·obtain ⟨r_58, e_59, H⟩ := bdE H
          obtain ⟨r_60, e_61, H⟩ := ltE H
          obtain ⟨g_62, H⟩ := gdE H
          let v_63 : Arr thread_cell 32 := a_6.s a_1.T r_60
          replace H := ltD H
          obtain rfl := sj H
          exact thread_thread_step_2.F.run tb mixed [pf g_16, sgl thread_cell.c a_6 4 0 g_16, pf g_18, sgl thread_cell.c a_6 4 0 g_18, kp [0, 1] [.seg [.c (.ro false 5 a_2.length (a_2.map api_Inst.c)), .c (vi a_3), .c (vi a_4), .c (.ro false 1 a_5.length (a_5.map (cI .i64))), .a 2 32 (a_6.l.map thread_cell.c), .a 2 400 (a_7.l.map thread_cell.c), .c (.v (.bool a_8)), .c (.v (.bool a_9)), .c (.v (.int .u64 a_10)), .c (.v (.int .u64 a_11)), .c (.v (.int .u64 a_12)), .c (vi a_13), .c (vi a_14), .c (sL 1 a_15)], .arr true 48 8 a_15.length (a_15.map api_Event.c)] (ca [0, 1] (thread_thread_or_2.ev e_21)), br h_22, br h_25, br h_29, br h_33, br h_37, br h_42, br h_47, br h_52, br h_57, ca [] (thread_quotient.ev e_59), ca [] (thread_two.ev e_61), pf g_62, sgs thread_cell.c a_6 4 0 [vi r_60.n, .v (.int .u64 r_60.hang)] r_60 g_62 (by kernel_rfl)] rfl (by kernel_rfl)
         ·rcases ic H with ⟨h_64, H⟩ | ⟨h_64, H⟩
          ·let v_65 : Int := bits .or .u64 v_17.hang v_19.hang
           replace H := ltD H
           obtain rfl := sj H
           exact thread_thread_step_2.F.run tb mixed [pf g_16, sgl thread_cell.c a_6 4 0 g_16, pf g_18, sgl thread_cell.c a_6 4 0 g_18, kp [0, 1] [.seg [.c (.ro false 5 a_2.length (a_2.map api_Inst.c)), .c (vi a_3), .c (vi a_4), .c (.ro false 1 a_5.length (a_5.map (cI .i64))), .a 2 32 (a_6.l.map thread_cell.c), .a 2 400 (a_7.l.map thread_cell.c), .c (.v (.bool a_8)), .c (.v (.bool a_9)), .c (.v (.int .u64 a_10)), .c (.v (.int .u64 a_11)), .c (.v (.int .u64 a_12)), .c (vi a_13), .c (vi a_14), .c (sL 1 a_15)], .arr true 48 8 a_15.length (a_15.map api_Event.c)] (ca [0, 1] (thread_thread_or_2.ev e_21)), br h_22, br h_25, br h_29, br h_33, br h_37, br h_42, br h_47, br h_52, br h_57, br h_64] rfl (by kernel_rfl)
          ·rcases ic H with ⟨h_66, H⟩ | ⟨h_66, H⟩
           ·obtain rfl := sj H
            exact thread_thread_step_2.F.run tb mixed [pf g_16, sgl thread_cell.c a_6 4 0 g_16, pf g_18, sgl thread_cell.c a_6 4 0 g_18, kp [0, 1] [.seg [.c (.ro false 5 a_2.length (a_2.map api_Inst.c)), .c (vi a_3), .c (vi a_4), .c (.ro false 1 a_5.length (a_5.map (cI .i64))), .a 2 32 (a_6.l.map thread_cell.c), .a 2 400 (a_7.l.map thread_cell.c), .c (.v (.bool a_8)), .c (.v (.bool a_9)), .c (.v (.int .u64 a_10)), .c (.v (.int .u64 a_11)), .c (.v (.int .u64 a_12)), .c (vi a_13), .c (vi a_14), .c (sL 1 a_15)], .arr true 48 8 a_15.length (a_15.map api_Event.c)] (ca [0, 1] (thread_thread_or_2.ev e_21)), br h_22, br h_25, br h_29, br h_33, br h_37, br h_42, br h_47, br h_52, br h_57, br h_64, br h_66] rfl (by kernel_rfl)
           ·rcases ic H with ⟨h_67, H⟩ | ⟨h_67, H⟩
            ·obtain ⟨r_68, e_69, H⟩ := bdE H
             rcases r_68 with r_70 | r_71
             ·obtain rfl := sj H
              exact thread_thread_step_2.F.run tb mixed [pf g_16, sgl thread_cell.c a_6 4 0 g_16, pf g_18, sgl thread_cell.c a_6 4 0 g_18, kp [0, 1] [.seg [.c (.ro false 5 a_2.length (a_2.map api_Inst.c)), .c (vi a_3), .c (vi a_4), .c (.ro false 1 a_5.length (a_5.map (cI .i64))), .a 2 32 (a_6.l.map thread_cell.c), .a 2 400 (a_7.l.map thread_cell.c), .c (.v (.bool a_8)), .c (.v (.bool a_9)), .c (.v (.int .u64 a_10)), .c (.v (.int .u64 a_11)), .c (.v (.int .u64 a_12)), .c (vi a_13), .c (vi a_14), .c (sL 1 a_15)], .arr true 48 8 a_15.length (a_15.map api_Event.c)] (ca [0, 1] (thread_thread_or_2.ev e_21)), br h_22, br h_25, br h_29, br h_33, br h_37, br h_42, br h_47, br h_52, br h_57, br h_64, br h_66, br h_67, ca [0, 1] (thread_thread_load_2.ev e_69)] rfl (by kernel_rfl)
             ·obtain rfl := sj H
              exact thread_thread_step_2.F.run tb mixed [pf g_16, sgl thread_cell.c a_6 4 0 g_16, pf g_18, sgl thread_cell.c a_6 4 0 g_18, kp [0, 1] [.seg [.c (.ro false 5 a_2.length (a_2.map api_Inst.c)), .c (vi a_3), .c (vi a_4), .c (.ro false 1 a_5.length (a_5.map (cI .i64))), .a 2 32 (a_6.l.map thread_cell.c), .a 2 400 (a_7.l.map thread_cell.c), .c (.v (.bool a_8)), .c (.v (.bool a_9)), .c (.v (.int .u64 a_10)), .c (.v (.int .u64 a_11)), .c (.v (.int .u64 a_12)), .c (vi a_13), .c (vi a_14), .c (sL 1 a_15)], .arr true 48 8 a_15.length (a_15.map api_Event.c)] (ca [0, 1] (thread_thread_or_2.ev e_21)), br h_22, br h_25, br h_29, br h_33, br h_37, br h_42, br h_47, br h_52, br h_57, br h_64, br h_66, br h_67, ca [0, 1] (thread_thread_load_2.ev e_69)] rfl (by kernel_rfl)
            ·rcases ic H with ⟨h_72, H⟩ | ⟨h_72, H⟩
             ·obtain ⟨r_73, e_74, H⟩ := bdE H
              rcases r_73 with r_75 | r_76
              ·obtain rfl := sj H
               exact thread_thread_step_2.F.run tb mixed [pf g_16, sgl thread_cell.c a_6 4 0 g_16, pf g_18, sgl thread_cell.c a_6 4 0 g_18, kp [0, 1] [.seg [.c (.ro false 5 a_2.length (a_2.map api_Inst.c)), .c (vi a_3), .c (vi a_4), .c (.ro false 1 a_5.length (a_5.map (cI .i64))), .a 2 32 (a_6.l.map thread_cell.c), .a 2 400 (a_7.l.map thread_cell.c), .c (.v (.bool a_8)), .c (.v (.bool a_9)), .c (.v (.int .u64 a_10)), .c (.v (.int .u64 a_11)), .c (.v (.int .u64 a_12)), .c (vi a_13), .c (vi a_14), .c (sL 1 a_15)], .arr true 48 8 a_15.length (a_15.map api_Event.c)] (ca [0, 1] (thread_thread_or_2.ev e_21)), br h_22, br h_25, br h_29, br h_33, br h_37, br h_42, br h_47, br h_52, br h_57, br h_64, br h_66, br h_67, br h_72, ca [0, 1] (thread_thread_store_2.ev e_74)] rfl (by kernel_rfl)
              ·obtain rfl := sj H
               exact thread_thread_step_2.F.run tb mixed [pf g_16, sgl thread_cell.c a_6 4 0 g_16, pf g_18, sgl thread_cell.c a_6 4 0 g_18, kp [0, 1] [.seg [.c (.ro false 5 a_2.length (a_2.map api_Inst.c)), .c (vi a_3), .c (vi a_4), .c (.ro false 1 a_5.length (a_5.map (cI .i64))), .a 2 32 (a_6.l.map thread_cell.c), .a 2 400 (a_7.l.map thread_cell.c), .c (.v (.bool a_8)), .c (.v (.bool a_9)), .c (.v (.int .u64 a_10)), .c (.v (.int .u64 a_11)), .c (.v (.int .u64 a_12)), .c (vi a_13), .c (vi a_14), .c (sL 1 a_15)], .arr true 48 8 a_15.length (a_15.map api_Event.c)] (ca [0, 1] (thread_thread_or_2.ev e_21)), br h_22, br h_25, br h_29, br h_33, br h_37, br h_42, br h_47, br h_52, br h_57, br h_64, br h_66, br h_67, br h_72, ca [0, 1] (thread_thread_store_2.ev e_74)] rfl (by kernel_rfl)
             ·obtain ⟨o_77, e_78, H⟩ := bdE H
              have j_79 : Rq thread_thread_step_2.F 2 [1, 1, 0, 1, 0, 1, 1, 1, 1, 1, 1, 1, 1, 1, 1, 1, 1, 1, 1, 1, 1, 1, 1, 1, 1, 1, 1, 1, 1, 1, 1, 0, 1] ⟨[(0, .ref 0 0), (3, .ref 2 0), (6, .ref 4 0), (7, .ref 5 0), (30, vi a_1.Op), (244, .v (.bool (decide (a_1.Op = 12))))], [.seg [.c (.ro false 5 a_2.length (a_2.map api_Inst.c)), .c (vi a_3), .c (vi a_4), .c (.ro false 1 a_5.length (a_5.map (cI .i64))), .a 2 32 (a_6.l.map thread_cell.c), .a 2 400 (a_7.l.map thread_cell.c), .c (.v (.bool a_8)), .c (.v (.bool a_9)), .c (.v (.int .u64 a_10)), .c (.v (.int .u64 a_11)), .c (.v (.int .u64 a_12)), .c (vi a_13), .c (vi a_14), .c (sL 1 a_15)], .arr true 48 8 a_15.length (a_15.map api_Event.c), .box (api_Inst.c a_1), .dead, .box (thread_cell.c v_19), .box (thread_cell.c r_20)], []⟩ ((fun _ => .normal : Bool → Ex) o_77) ((fun o_77 => ⟨[(0, .ref 0 0), (3, .ref 2 0), (6, .ref 4 0), (7, .ref 5 0), (30, vi a_1.Op), (244, .v (.bool o_77))], [.seg [.c (.ro false 5 a_2.length (a_2.map api_Inst.c)), .c (vi a_3), .c (vi a_4), .c (.ro false 1 a_5.length (a_5.map (cI .i64))), .a 2 32 (a_6.l.map thread_cell.c), .a 2 400 (a_7.l.map thread_cell.c), .c (.v (.bool a_8)), .c (.v (.bool a_9)), .c (.v (.int .u64 a_10)), .c (.v (.int .u64 a_11)), .c (.v (.int .u64 a_12)), .c (vi a_13), .c (vi a_14), .c (sL 1 a_15)], .arr true 48 8 a_15.length (a_15.map api_Event.c), .box (api_Inst.c a_1), .dead, .box (thread_cell.c v_19), .box (thread_cell.c r_20)], []⟩ : Bool → ASt) o_77) := by
               clear H
               have H := e_78
               clear e_78
               rcases ic H with ⟨h_80, H⟩ | ⟨h_80, H⟩
               ·obtain rfl := sj H
                exact fn [br h_80]
               ·obtain rfl := sj H
                exact fn [br h_80]
              rcases ie H with ⟨h_81, H⟩ | ⟨h_81, H⟩
              ·obtain ⟨r_82, e_83, H⟩ := ltE H
               obtain ⟨r_84, e_85, H⟩ := bdE H
               rcases r_84 with r_86 | r_87
               ·obtain rfl := sj H
                exact thread_thread_step_2.F.run tb mixed [pf g_16, sgl thread_cell.c a_6 4 0 g_16, pf g_18, sgl thread_cell.c a_6 4 0 g_18, kp [0, 1] [.seg [.c (.ro false 5 a_2.length (a_2.map api_Inst.c)), .c (vi a_3), .c (vi a_4), .c (.ro false 1 a_5.length (a_5.map (cI .i64))), .a 2 32 (a_6.l.map thread_cell.c), .a 2 400 (a_7.l.map thread_cell.c), .c (.v (.bool a_8)), .c (.v (.bool a_9)), .c (.v (.int .u64 a_10)), .c (.v (.int .u64 a_11)), .c (.v (.int .u64 a_12)), .c (vi a_13), .c (vi a_14), .c (sL 1 a_15)], .arr true 48 8 a_15.length (a_15.map api_Event.c)] (ca [0, 1] (thread_thread_or_2.ev e_21)), br h_22, br h_25, br h_29, br h_33, br h_37, br h_42, br h_47, br h_52, br h_57, br h_64, br h_66, br h_67, br h_72, sc_ j_79, br h_81, ca [] (thread_two.ev e_83), ca [0, 1] (thread_thread_load_2.ev e_85)] rfl (by kernel_rfl)
               ·obtain rfl := sj H
                exact thread_thread_step_2.F.run tb mixed [pf g_16, sgl thread_cell.c a_6 4 0 g_16, pf g_18, sgl thread_cell.c a_6 4 0 g_18, kp [0, 1] [.seg [.c (.ro false 5 a_2.length (a_2.map api_Inst.c)), .c (vi a_3), .c (vi a_4), .c (.ro false 1 a_5.length (a_5.map (cI .i64))), .a 2 32 (a_6.l.map thread_cell.c), .a 2 400 (a_7.l.map thread_cell.c), .c (.v (.bool a_8)), .c (.v (.bool a_9)), .c (.v (.int .u64 a_10)), .c (.v (.int .u64 a_11)), .c (.v (.int .u64 a_12)), .c (vi a_13), .c (vi a_14), .c (sL 1 a_15)], .arr true 48 8 a_15.length (a_15.map api_Event.c)] (ca [0, 1] (thread_thread_or_2.ev e_21)), br h_22, br h_25, br h_29, br h_33, br h_37, br h_42, br h_47, br h_52, br h_57, br h_64, br h_66, br h_67, br h_72, sc_ j_79, br h_81, ca [] (thread_two.ev e_83), ca [0, 1] (thread_thread_load_2.ev e_85)] rfl (by kernel_rfl)
              ·obtain ⟨o_88, e_89, H⟩ := bdE H
               have j_90 : Rq thread_thread_step_2.F 2 [1, 1, 0, 1, 0, 1, 1, 1, 1, 1, 1, 1, 1, 1, 1, 1, 1, 1, 1, 1, 1, 1, 1, 1, 1, 1, 1, 1, 1, 1, 1, 1, 1, 0, 1] ⟨[(0, .ref 0 0), (3, .ref 2 0), (6, .ref 4 0), (7, .ref 5 0), (30, vi a_1.Op), (258, .v (.bool (decide (a_1.Op = 13))))], [.seg [.c (.ro false 5 a_2.length (a_2.map api_Inst.c)), .c (vi a_3), .c (vi a_4), .c (.ro false 1 a_5.length (a_5.map (cI .i64))), .a 2 32 (a_6.l.map thread_cell.c), .a 2 400 (a_7.l.map thread_cell.c), .c (.v (.bool a_8)), .c (.v (.bool a_9)), .c (.v (.int .u64 a_10)), .c (.v (.int .u64 a_11)), .c (.v (.int .u64 a_12)), .c (vi a_13), .c (vi a_14), .c (sL 1 a_15)], .arr true 48 8 a_15.length (a_15.map api_Event.c), .box (api_Inst.c a_1), .dead, .box (thread_cell.c v_19), .box (thread_cell.c r_20)], []⟩ ((fun _ => .normal : Bool → Ex) o_88) ((fun o_88 => ⟨[(0, .ref 0 0), (3, .ref 2 0), (6, .ref 4 0), (7, .ref 5 0), (30, vi a_1.Op), (258, .v (.bool o_88))], [.seg [.c (.ro false 5 a_2.length (a_2.map api_Inst.c)), .c (vi a_3), .c (vi a_4), .c (.ro false 1 a_5.length (a_5.map (cI .i64))), .a 2 32 (a_6.l.map thread_cell.c), .a 2 400 (a_7.l.map thread_cell.c), .c (.v (.bool a_8)), .c (.v (.bool a_9)), .c (.v (.int .u64 a_10)), .c (.v (.int .u64 a_11)), .c (.v (.int .u64 a_12)), .c (vi a_13), .c (vi a_14), .c (sL 1 a_15)], .arr true 48 8 a_15.length (a_15.map api_Event.c), .box (api_Inst.c a_1), .dead, .box (thread_cell.c v_19), .box (thread_cell.c r_20)], []⟩ : Bool → ASt) o_88) := by
                clear H
                have H := e_89
                clear e_89
                rcases ic H with ⟨h_91, H⟩ | ⟨h_91, H⟩
                ·obtain rfl := sj H
                 exact fn [br h_91]
                ·obtain rfl := sj H
                 exact fn [br h_91]
               rcases ie H with ⟨h_92, H⟩ | ⟨h_92, H⟩
               ·obtain ⟨r_93, e_94, H⟩ := ltE H
                obtain ⟨r_95, e_96, H⟩ := bdE H
                rcases r_95 with r_97 | r_98
                ·obtain rfl := sj H
                 exact thread_thread_step_2.F.run tb mixed [pf g_16, sgl thread_cell.c a_6 4 0 g_16, pf g_18, sgl thread_cell.c a_6 4 0 g_18, kp [0, 1] [.seg [.c (.ro false 5 a_2.length (a_2.map api_Inst.c)), .c (vi a_3), .c (vi a_4), .c (.ro false 1 a_5.length (a_5.map (cI .i64))), .a 2 32 (a_6.l.map thread_cell.c), .a 2 400 (a_7.l.map thread_cell.c), .c (.v (.bool a_8)), .c (.v (.bool a_9)), .c (.v (.int .u64 a_10)), .c (.v (.int .u64 a_11)), .c (.v (.int .u64 a_12)), .c (vi a_13), .c (vi a_14), .c (sL 1 a_15)], .arr true 48 8 a_15.length (a_15.map api_Event.c)] (ca [0, 1] (thread_thread_or_2.ev e_21)), br h_22, br h_25, br h_29, br h_33, br h_37, br h_42, br h_47, br h_52, br h_57, br h_64, br h_66, br h_67, br h_72, sc_ j_79, br h_81, sc_ j_90, br h_92, ca [] (thread_two.ev e_94), kp [0, 1] [.seg [.c (.ro false 5 a_2.length (a_2.map api_Inst.c)), .c (vi a_3), .c (vi a_4), .c (.ro false 1 a_5.length (a_5.map (cI .i64))), .a 2 32 (a_6.l.map thread_cell.c), .a 2 400 (a_7.l.map thread_cell.c), .c (.v (.bool a_8)), .c (.v (.bool a_9)), .c (.v (.int .u64 a_10)), .c (.v (.int .u64 a_11)), .c (.v (.int .u64 a_12)), .c (vi a_13), .c (vi a_14), .c (sL 1 a_15)], .arr true 48 8 a_15.length (a_15.map api_Event.c)] (ca [0, 1] (thread_thread_store_2.ev e_96))] rfl (by kernel_rfl)
                ·obtain rfl := sj H
                 exact thread_thread_step_2.F.run tb mixed [pf g_16, sgl thread_cell.c a_6 4 0 g_16, pf g_18, sgl thread_cell.c a_6 4 0 g_18, kp [0, 1] [.seg [.c (.ro false 5 a_2.length (a_2.map api_Inst.c)), .c (vi a_3), .c (vi a_4), .c (.ro false 1 a_5.length (a_5.map (cI .i64))), .a 2 32 (a_6.l.map thread_cell.c), .a 2 400 (a_7.l.map thread_cell.c), .c (.v (.bool a_8)), .c (.v (.bool a_9)), .c (.v (.int .u64 a_10)), .c (.v (.int .u64 a_11)), .c (.v (.int .u64 a_12)), .c (vi a_13), .c (vi a_14), .c (sL 1 a_15)], .arr true 48 8 a_15.length (a_15.map api_Event.c)] (ca [0, 1] (thread_thread_or_2.ev e_21)), br h_22, br h_25, br h_29, br h_33, br h_37, br h_42, br h_47, br h_52, br h_57, br h_64, br h_66, br h_67, br h_72, sc_ j_79, br h_81, sc_ j_90, br h_92, ca [] (thread_two.ev e_94), ca [0, 1] (thread_thread_store_2.ev e_96)] rfl (by kernel_rfl)
               ·rcases ic H with ⟨h_99, H⟩ | ⟨h_99, H⟩
                ·obtain ⟨r_100, e_101, H⟩ := ltE H
                 rcases ie H with ⟨h_102, H⟩ | ⟨h_102, H⟩
                 ·let v_103 : Int := wr .i64 (Int.tdiv a_1.Imm (4 : Int))
                  replace H := ltD H
                  obtain rfl := sj H
                  exact thread_thread_step_2.F.run tb mixed [pf g_16, sgl thread_cell.c a_6 4 0 g_16, pf g_18, sgl thread_cell.c a_6 4 0 g_18, kp [0, 1] [.seg [.c (.ro false 5 a_2.length (a_2.map api_Inst.c)), .c (vi a_3), .c (vi a_4), .c (.ro false 1 a_5.length (a_5.map (cI .i64))), .a 2 32 (a_6.l.map thread_cell.c), .a 2 400 (a_7.l.map thread_cell.c), .c (.v (.bool a_8)), .c (.v (.bool a_9)), .c (.v (.int .u64 a_10)), .c (.v (.int .u64 a_11)), .c (.v (.int .u64 a_12)), .c (vi a_13), .c (vi a_14), .c (sL 1 a_15)], .arr true 48 8 a_15.length (a_15.map api_Event.c)] (ca [0, 1] (thread_thread_or_2.ev e_21)), br h_22, br h_25, br h_29, br h_33, br h_37, br h_42, br h_47, br h_52, br h_57, br h_64, br h_66, br h_67, br h_72, sc_ j_79, br h_81, sc_ j_90, br h_92, br h_99, ca [0, 1] (thread_thread_branch_2.ev e_101), br h_102, pf (by decide : (4 : Int) ≠ 0)] rfl (by kernel_rfl)
                 ·obtain rfl := sj H
                  exact thread_thread_step_2.F.run tb mixed [pf g_16, sgl thread_cell.c a_6 4 0 g_16, pf g_18, sgl thread_cell.c a_6 4 0 g_18, kp [0, 1] [.seg [.c (.ro false 5 a_2.length (a_2.map api_Inst.c)), .c (vi a_3), .c (vi a_4), .c (.ro false 1 a_5.length (a_5.map (cI .i64))), .a 2 32 (a_6.l.map thread_cell.c), .a 2 400 (a_7.l.map thread_cell.c), .c (.v (.bool a_8)), .c (.v (.bool a_9)), .c (.v (.int .u64 a_10)), .c (.v (.int .u64 a_11)), .c (.v (.int .u64 a_12)), .c (vi a_13), .c (vi a_14), .c (sL 1 a_15)], .arr true 48 8 a_15.length (a_15.map api_Event.c)] (ca [0, 1] (thread_thread_or_2.ev e_21)), br h_22, br h_25, br h_29, br h_33, br h_37, br h_42, br h_47, br h_52, br h_57, br h_64, br h_66, br h_67, br h_72, sc_ j_79, br h_81, sc_ j_90, br h_92, br h_99, ca [0, 1] (thread_thread_branch_2.ev e_101), br h_102] rfl (by kernel_rfl)
                ·rcases ic H with ⟨h_104, H⟩ | ⟨h_104, H⟩
                 ·let v_105 : Int := wr .i64 (Int.tdiv a_1.Imm (4 : Int))
                  replace H := ltD H
                  obtain rfl := sj H
                  exact thread_thread_step_2.F.run tb mixed [pf g_16, sgl thread_cell.c a_6 4 0 g_16, pf g_18, sgl thread_cell.c a_6 4 0 g_18, kp [0, 1] [.seg [.c (.ro false 5 a_2.length (a_2.map api_Inst.c)), .c (vi a_3), .c (vi a_4), .c (.ro false 1 a_5.length (a_5.map (cI .i64))), .a 2 32 (a_6.l.map thread_cell.c), .a 2 400 (a_7.l.map thread_cell.c), .c (.v (.bool a_8)), .c (.v (.bool a_9)), .c (.v (.int .u64 a_10)), .c (.v (.int .u64 a_11)), .c (.v (.int .u64 a_12)), .c (vi a_13), .c (vi a_14), .c (sL 1 a_15)], .arr true 48 8 a_15.length (a_15.map api_Event.c)] (ca [0, 1] (thread_thread_or_2.ev e_21)), br h_22, br h_25, br h_29, br h_33, br h_37, br h_42, br h_47, br h_52, br h_57, br h_64, br h_66, br h_67, br h_72, sc_ j_79, br h_81, sc_ j_90, br h_92, br h_99, br h_104, pf (by decide : (4 : Int) ≠ 0)] rfl (by kernel_rfl)
                 ·rcases ic H with ⟨h_106, H⟩ | ⟨h_106, H⟩
                  ·obtain ⟨r_107, e_108, H⟩ := bdE H
                   rcases r_107 with r_109 | r_110
                   ·obtain rfl := sj H
                    exact thread_thread_step_2.F.run tb mixed [pf g_16, sgl thread_cell.c a_6 4 0 g_16, pf g_18, sgl thread_cell.c a_6 4 0 g_18, kp [0, 1] [.seg [.c (.ro false 5 a_2.length (a_2.map api_Inst.c)), .c (vi a_3), .c (vi a_4), .c (.ro false 1 a_5.length (a_5.map (cI .i64))), .a 2 32 (a_6.l.map thread_cell.c), .a 2 400 (a_7.l.map thread_cell.c), .c (.v (.bool a_8)), .c (.v (.bool a_9)), .c (.v (.int .u64 a_10)), .c (.v (.int .u64 a_11)), .c (.v (.int .u64 a_12)), .c (vi a_13), .c (vi a_14), .c (sL 1 a_15)], .arr true 48 8 a_15.length (a_15.map api_Event.c)] (ca [0, 1] (thread_thread_or_2.ev e_21)), br h_22, br h_25, br h_29, br h_33, br h_37, br h_42, br h_47, br h_52, br h_57, br h_64, br h_66, br h_67, br h_72, sc_ j_79, br h_81, sc_ j_90, br h_92, br h_99, br h_104, br h_106, ca [0, 1] (thread_thread_tell_2.ev e_108)] rfl (by kernel_rfl)
                   ·obtain rfl := sj H
                    exact thread_thread_step_2.F.run tb mixed [pf g_16, sgl thread_cell.c a_6 4 0 g_16, pf g_18, sgl thread_cell.c a_6 4 0 g_18, kp [0, 1] [.seg [.c (.ro false 5 a_2.length (a_2.map api_Inst.c)), .c (vi a_3), .c (vi a_4), .c (.ro false 1 a_5.length (a_5.map (cI .i64))), .a 2 32 (a_6.l.map thread_cell.c), .a 2 400 (a_7.l.map thread_cell.c), .c (.v (.bool a_8)), .c (.v (.bool a_9)), .c (.v (.int .u64 a_10)), .c (.v (.int .u64 a_11)), .c (.v (.int .u64 a_12)), .c (vi a_13), .c (vi a_14), .c (sL 1 a_15)], .arr true 48 8 a_15.length (a_15.map api_Event.c)] (ca [0, 1] (thread_thread_or_2.ev e_21)), br h_22, br h_25, br h_29, br h_33, br h_37, br h_42, br h_47, br h_52, br h_57, br h_64, br h_66, br h_67, br h_72, sc_ j_79, br h_81, sc_ j_90, br h_92, br h_99, br h_104, br h_106, ca [0, 1] (thread_thread_tell_2.ev e_108)] rfl (by kernel_rfl)
                  ·rcases ic H with ⟨h_111, H⟩ | ⟨h_111, H⟩
                   ·obtain ⟨r_112, e_113, H⟩ := bdE H
                    rcases r_112 with r_114 | r_115
                    ·obtain rfl := sj H
                     exact thread_thread_step_2.F.run tb mixed [pf g_16, sgl thread_cell.c a_6 4 0 g_16, pf g_18, sgl thread_cell.c a_6 4 0 g_18, kp [0, 1] [.seg [.c (.ro false 5 a_2.length (a_2.map api_Inst.c)), .c (vi a_3), .c (vi a_4), .c (.ro false 1 a_5.length (a_5.map (cI .i64))), .a 2 32 (a_6.l.map thread_cell.c), .a 2 400 (a_7.l.map thread_cell.c), .c (.v (.bool a_8)), .c (.v (.bool a_9)), .c (.v (.int .u64 a_10)), .c (.v (.int .u64 a_11)), .c (.v (.int .u64 a_12)), .c (vi a_13), .c (vi a_14), .c (sL 1 a_15)], .arr true 48 8 a_15.length (a_15.map api_Event.c)] (ca [0, 1] (thread_thread_or_2.ev e_21)), br h_22, br h_25, br h_29, br h_33, br h_37, br h_42, br h_47, br h_52, br h_57, br h_64, br h_66, br h_67, br h_72, sc_ j_79, br h_81, sc_ j_90, br h_92, br h_99, br h_104, br h_106, br h_111, ca [0, 1] (thread_thread_tell_2.ev e_113)] rfl (by kernel_rfl)
                    ·obtain rfl := sj H
                     exact thread_thread_step_2.F.run tb mixed [pf g_16, sgl thread_cell.c a_6 4 0 g_16, pf g_18, sgl thread_cell.c a_6 4 0 g_18, kp [0, 1] [.seg [.c (.ro false 5 a_2.length (a_2.map api_Inst.c)), .c (vi a_3), .c (vi a_4), .c (.ro false 1 a_5.length (a_5.map (cI .i64))), .a 2 32 (a_6.l.map thread_cell.c), .a 2 400 (a_7.l.map thread_cell.c), .c (.v (.bool a_8)), .c (.v (.bool a_9)), .c (.v (.int .u64 a_10)), .c (.v (.int .u64 a_11)), .c (.v (.int .u64 a_12)), .c (vi a_13), .c (vi a_14), .c (sL 1 a_15)], .arr true 48 8 a_15.length (a_15.map api_Event.c)] (ca [0, 1] (thread_thread_or_2.ev e_21)), br h_22, br h_25, br h_29, br h_33, br h_37, br h_42, br h_47, br h_52, br h_57, br h_64, br h_66, br h_67, br h_72, sc_ j_79, br h_81, sc_ j_90, br h_92, br h_99, br h_104, br h_106, br h_111, ca [0, 1] (thread_thread_tell_2.ev e_113)] rfl (by kernel_rfl)
                   ·rcases ic H with ⟨h_116, H⟩ | ⟨h_116, H⟩
                    ·obtain ⟨r_117, e_118, H⟩ := bdE H
                     rcases r_117 with r_119 | r_120
                     ·obtain rfl := sj H
                      exact thread_thread_step_2.F.run tb mixed [pf g_16, sgl thread_cell.c a_6 4 0 g_16, pf g_18, sgl thread_cell.c a_6 4 0 g_18, kp [0, 1] [.seg [.c (.ro false 5 a_2.length (a_2.map api_Inst.c)), .c (vi a_3), .c (vi a_4), .c (.ro false 1 a_5.length (a_5.map (cI .i64))), .a 2 32 (a_6.l.map thread_cell.c), .a 2 400 (a_7.l.map thread_cell.c), .c (.v (.bool a_8)), .c (.v (.bool a_9)), .c (.v (.int .u64 a_10)), .c (.v (.int .u64 a_11)), .c (.v (.int .u64 a_12)), .c (vi a_13), .c (vi a_14), .c (sL 1 a_15)], .arr true 48 8 a_15.length (a_15.map api_Event.c)] (ca [0, 1] (thread_thread_or_2.ev e_21)), br h_22, br h_25, br h_29, br h_33, br h_37, br h_42, br h_47, br h_52, br h_57, br h_64, br h_66, br h_67, br h_72, sc_ j_79, br h_81, sc_ j_90, br h_92, br h_99, br h_104, br h_106, br h_111, br h_116, ca [0, 1] (thread_thread_tell_2.ev e_118)] rfl (by kernel_rfl)
                     ·obtain rfl := sj H
                      exact thread_thread_step_2.F.run tb mixed [pf g_16, sgl thread_cell.c a_6 4 0 g_16, pf g_18, sgl thread_cell.c a_6 4 0 g_18, kp [0, 1] [.seg [.c (.ro false 5 a_2.length (a_2.map api_Inst.c)), .c (vi a_3), .c (vi a_4), .c (.ro false 1 a_5.length (a_5.map (cI .i64))), .a 2 32 (a_6.l.map thread_cell.c), .a 2 400 (a_7.l.map thread_cell.c), .c (.v (.bool a_8)), .c (.v (.bool a_9)), .c (.v (.int .u64 a_10)), .c (.v (.int .u64 a_11)), .c (.v (.int .u64 a_12)), .c (vi a_13), .c (vi a_14), .c (sL 1 a_15)], .arr true 48 8 a_15.length (a_15.map api_Event.c)] (ca [0, 1] (thread_thread_or_2.ev e_21)), br h_22, br h_25, br h_29, br h_33, br h_37, br h_42, br h_47, br h_52, br h_57, br h_64, br h_66, br h_67, br h_72, sc_ j_79, br h_81, sc_ j_90, br h_92, br h_99, br h_104, br h_106, br h_111, br h_116, ca [0, 1] (thread_thread_tell_2.ev e_118)] rfl (by kernel_rfl)
                    ·rcases ic H with ⟨h_121, H⟩ | ⟨h_121, H⟩
                     ·obtain ⟨r_122, e_123, H⟩ := bdE H
                      rcases r_122 with r_124 | r_125
                      ·obtain rfl := sj H
                       exact thread_thread_step_2.F.run tb mixed [pf g_16, sgl thread_cell.c a_6 4 0 g_16, pf g_18, sgl thread_cell.c a_6 4 0 g_18, kp [0, 1] [.seg [.c (.ro false 5 a_2.length (a_2.map api_Inst.c)), .c (vi a_3), .c (vi a_4), .c (.ro false 1 a_5.length (a_5.map (cI .i64))), .a 2 32 (a_6.l.map thread_cell.c), .a 2 400 (a_7.l.map thread_cell.c), .c (.v (.bool a_8)), .c (.v (.bool a_9)), .c (.v (.int .u64 a_10)), .c (.v (.int .u64 a_11)), .c (.v (.int .u64 a_12)), .c (vi a_13), .c (vi a_14), .c (sL 1 a_15)], .arr true 48 8 a_15.length (a_15.map api_Event.c)] (ca [0, 1] (thread_thread_or_2.ev e_21)), br h_22, br h_25, br h_29, br h_33, br h_37, br h_42, br h_47, br h_52, br h_57, br h_64, br h_66, br h_67, br h_72, sc_ j_79, br h_81, sc_ j_90, br h_92, br h_99, br h_104, br h_106, br h_111, br h_116, br h_121, ca [0, 1] (thread_thread_call_2.ev e_123)] rfl (by kernel_rfl)
                      ·obtain rfl := sj H
                       exact thread_thread_step_2.F.run tb mixed [pf g_16, sgl thread_cell.c a_6 4 0 g_16, pf g_18, sgl thread_cell.c a_6 4 0 g_18, kp [0, 1] [.seg [.c (.ro false 5 a_2.length (a_2.map api_Inst.c)), .c (vi a_3), .c (vi a_4), .c (.ro false 1 a_5.length (a_5.map (cI .i64))), .a 2 32 (a_6.l.map thread_cell.c), .a 2 400 (a_7.l.map thread_cell.c), .c (.v (.bool a_8)), .c (.v (.bool a_9)), .c (.v (.int .u64 a_10)), .c (.v (.int .u64 a_11)), .c (.v (.int .u64 a_12)), .c (vi a_13), .c (vi a_14), .c (sL 1 a_15)], .arr true 48 8 a_15.length (a_15.map api_Event.c)] (ca [0, 1] (thread_thread_or_2.ev e_21)), br h_22, br h_25, br h_29, br h_33, br h_37, br h_42, br h_47, br h_52, br h_57, br h_64, br h_66, br h_67, br h_72, sc_ j_79, br h_81, sc_ j_90, br h_92, br h_99, br h_104, br h_106, br h_111, br h_116, br h_121, ca [0, 1] (thread_thread_call_2.ev e_123)] rfl (by kernel_rfl)
                     ·obtain rfl := sj H
                      exact thread_thread_step_2.F.run tb mixed [pf g_16, sgl thread_cell.c a_6 4 0 g_16, pf g_18, sgl thread_cell.c a_6 4 0 g_18, kp [0, 1] [.seg [.c (.ro false 5 a_2.length (a_2.map api_Inst.c)), .c (vi a_3), .c (vi a_4), .c (.ro false 1 a_5.length (a_5.map (cI .i64))), .a 2 32 (a_6.l.map thread_cell.c), .a 2 400 (a_7.l.map thread_cell.c), .c (.v (.bool a_8)), .c (.v (.bool a_9)), .c (.v (.int .u64 a_10)), .c (.v (.int .u64 a_11)), .c (.v (.int .u64 a_12)), .c (vi a_13), .c (vi a_14), .c (sL 1 a_15)], .arr true 48 8 a_15.length (a_15.map api_Event.c)] (ca [0, 1] (thread_thread_or_2.ev e_21)), br h_22, br h_25, br h_29, br h_33, br h_37, br h_42, br h_47, br h_52, br h_57, br h_64, br h_66, br h_67, br h_72, sc_ j_79, br h_81, sc_ j_90, br h_92, br h_99, br h_104, br h_106, br h_111, br h_116, br h_121] rfl (by kernel_rfl)
noncomputable def thread_Do.F : FI Try.prog 14 := fi Try.f14 91 Try.call14 Try.func14
noncomputable def thread_Do.G : FI Try.prog 30 := ⟨Try.f30, 14, (Try.f30.body.getD .skip), Try.f30.results.toList, Try.call30, Try.func30, by kernel_rfl, by kernel_rfl, by kernel_rfl⟩
def thread_Do.l2 (a_1 : List api_Inst) (a_2 : Int) (v_28 : Int) (s_35 : (List Int) × (Arr thread_cell 32) × (Arr thread_cell 400) × Bool × Bool × Int × Int × Int × Int × Int × (List api_Event) × Int × Int) : Option (((List Int) × (Arr thread_cell 32) × (Arr thread_cell 400) × Bool × Bool × Int × Int × Int × Int × Int × (List api_Event) × Int × Int) ⊕ ((Int × (List Int) × (Arr thread_cell 32) × (Arr thread_cell 400) × Bool × Bool × Int × Int × Int × Int × Int × (List api_Event)) ⊕ ((List Int) × (Arr thread_cell 32) × (Arr thread_cell 400) × Bool × Bool × Int × Int × Int × Int × Int × (List api_Event) × Int))) :=
 (if s_35.2.2.2.2.2.2.2.2.2.2.2.1 < 0 then (some (true : Bool)) else (some ((decide (s_35.2.2.2.2.2.2.2.2.2.2.2.1 ≥ (a_1.length : Int))) : Bool)) : Option Bool).bind fun o_41 => if o_41 = true then (some (Sum.inr (Sum.inl (6, s_35.1, s_35.2.1, s_35.2.2.1, s_35.2.2.2.1, s_35.2.2.2.2.1, s_35.2.2.2.2.2.1, s_35.2.2.2.2.2.2.1, s_35.2.2.2.2.2.2.2.1, s_35.2.2.2.2.2.2.2.2.1, s_35.2.2.2.2.2.2.2.2.2.1, s_35.2.2.2.2.2.2.2.2.2.2.1)))) else (if s_35.2.2.2.2.2.2.2.2.2.2.2.2 = 8000 then (some (Sum.inr (Sum.inl (5, s_35.1, s_35.2.1, s_35.2.2.1, s_35.2.2.2.1, s_35.2.2.2.2.1, s_35.2.2.2.2.2.1, s_35.2.2.2.2.2.2.1, s_35.2.2.2.2.2.2.2.1, s_35.2.2.2.2.2.2.2.2.1, s_35.2.2.2.2.2.2.2.2.2.1, s_35.2.2.2.2.2.2.2.2.2.2.1)))) else (if 0 ≤ s_35.2.2.2.2.2.2.2.2.2.2.2.1 ∧ s_35.2.2.2.2.2.2.2.2.2.2.2.1 < (a_1.length : Int) then (letC (gi a_1 s_35.2.2.2.2.2.2.2.2.2.2.2.1) fun v_48 => (thread_thread_step_2.m v_48 a_1 a_2 v_28 s_35.1 s_35.2.1 s_35.2.2.1 s_35.2.2.2.1 s_35.2.2.2.2.1 s_35.2.2.2.2.2.1 s_35.2.2.2.2.2.2.1 s_35.2.2.2.2.2.2.2.1 s_35.2.2.2.2.2.2.2.2.1 s_35.2.2.2.2.2.2.2.2.2.1 s_35.2.2.2.2.2.2.2.2.2.2.1).bind fun r_49 => match r_49 with | Sum.inl r_51 => (letC (wr .i64 (s_35.2.2.2.2.2.2.2.2.2.2.2.1 + r_51.2.2.2.2.2.2.2.2.2.2.2)) fun v_53 => letC (wr .i64 (s_35.2.2.2.2.2.2.2.2.2.2.2.2 + 1)) fun v_54 => some (Sum.inl (r_51.1, r_51.2.1, r_51.2.2.1, r_51.2.2.2.1, r_51.2.2.2.2.1, r_51.2.2.2.2.2.1, r_51.2.2.2.2.2.2.1, r_51.2.2.2.2.2.2.2.1, r_51.2.2.2.2.2.2.2.2.1, r_51.2.2.2.2.2.2.2.2.2.1, r_51.2.2.2.2.2.2.2.2.2.2.1, v_53, v_54))) | Sum.inr (r_52) => (some (Sum.inr (Sum.inr ((s_35.1, s_35.2.1, s_35.2.2.1, s_35.2.2.2.1, s_35.2.2.2.2.1, s_35.2.2.2.2.2.1, s_35.2.2.2.2.2.2.1, s_35.2.2.2.2.2.2.2.1, s_35.2.2.2.2.2.2.2.2.1, s_35.2.2.2.2.2.2.2.2.2.1, s_35.2.2.2.2.2.2.2.2.2.2.1, r_52)))))) else none))
def thread_Do.l1 (a_1 : List api_Inst) (s_15 : Int) : Option (Int ⊕ (Unit ⊕ Unit)) :=
 if s_15 < (a_1.length : Int) then (if 0 ≤ s_15 ∧ s_15 < (a_1.length : Int) then (letC (gi a_1 s_15) fun v_23 => (isa_Encode.m v_23).bind fun r_24 => if r_24.2 = 0 then (some (Sum.inl (wr .i64 (s_15 + 1)))) else (some (Sum.inr (Sum.inl ())))) else none) else (some (Sum.inr (Sum.inr (()))))
def thread_Do.m (a_1 : List api_Inst) (a_2 : Int) (a_3 : Int) (a_4 : List Int) (a_5 : Nat) : Option (Unit ⊕ ((List api_Event) × Int)) :=
 (if a_2 < 0 then (some (true : Bool)) else (if a_2 > 16 then (some (true : Bool)) else (if a_3 < 0 then (some (true : Bool)) else (some ((decide (a_3 ≥ 3)) : Bool)))) : Option Bool).bind fun o_6 => if o_6 = true then (some (Sum.inl ())) else ((B.loop (thread_Do.l1 a_1) (0 : Int)).bind fun o_16 => match o_16 with | Sum.inl s_19 => (some (Sum.inl ())) | Sum.inr (s_20) => (letC (wr .i64 (a_3 * 2 ^ (min (16 : Int).toNat 64))) fun v_27 => letC (wr .i64 ((1048576 : Int) + v_27)) fun v_28 => letC ((Arr.r 32 ((thread_cell.mk 0 0) : thread_cell) : Arr thread_cell 32).g 1) fun v_29 => letC ((Arr.r 32 ((thread_cell.mk 0 0) : thread_cell) : Arr thread_cell 32).s 1 (thread_cell.mk v_28 v_29.hang)) fun v_30 => letC (v_30.g 2) fun v_31 => letC (v_30.s 2 (thread_cell.mk 65536 v_31.hang)) fun v_32 => (B.loop (thread_Do.l2 a_1 a_2 v_28) ((a_4, v_32, (Arr.r 400 ((thread_cell.mk 0 0) : thread_cell) : Arr thread_cell 400), false, false, 0, 0, 0, (-1), 0, ([] : List api_Event), 0, 0) : (List Int) × (Arr thread_cell 32) × (Arr thread_cell 400) × Bool × Bool × Int × Int × Int × Int × Int × (List api_Event) × Int × Int)).bind fun o_36 => match o_36 with | Sum.inl s_39 => (some (Sum.inr ((s_39.2.2.2.2.2.2.2.2.2.2.2, s_39.1)))) | Sum.inr (s_40) => (some (Sum.inr ((s_40.2.2.2.2.2.2.2.2.2.2.1, s_40.2.2.2.2.2.2.2.2.2.2.2))))))
noncomputable def thread_Do.o (a_1 : List api_Inst) (a_2 : Int) (a_3 : Int) (a_4 : List Int) (a_5 : Nat) (r : Unit ⊕ ((List api_Event) × Int)) : Out := match r with | Sum.inl r => .ret (.agg [.v (.slice none 0 0), vi 0]) [.dead] [] | Sum.inr (r) => .ret (.agg [sL 4 r.1, vi r.2]) [.dead, .dead, .dead, .dead, .arr true 48 8 r.1.length (r.1.map api_Event.c)] []
theorem thread_Do.ev {a_1 : List api_Inst} {a_2 : Int} {a_3 : Int} {a_4 : List Int} {a_5 : Nat} {r : Unit ⊕ ((List api_Event) × Int)} (H : thread_Do.m a_1 a_2 a_3 a_4 a_5 = some r) : Ev Try.prog 14 [.ro false 5 a_1.length (a_1.map api_Inst.c), vi a_2, vi a_3, .sl 0 0 a_5 0 a_5] [.arr false 2 1 a_5 (a_4.map (cI .i64))] [] (thread_Do.o a_1 a_2 a_3 a_4 a_5 r) := by
 unfold thread_Do.m at H
 obtain ⟨o_6, e_7, H⟩ := bdE H
 have j_8 : Rq thread_Do.F 1 [1, 0, 0] ⟨[(0, .ro false 5 a_1.length (a_1.map api_Inst.c)), (1, vi a_2), (2, vi a_3), (3, .ro false 1 a_4.length (a_4.map (cI .i64))), (8, .ref 1 0)], [.dead, .box [.v (.slice none 0 0), vi 0]], []⟩ ((fun _ => .normal : Bool → Ex) o_6) ((fun o_6 => ⟨[(0, .ro false 5 a_1.length (a_1.map api_Inst.c)), (1, vi a_2), (2, vi a_3), (3, .ro false 1 a_4.length (a_4.map (cI .i64))), (8, .ref 1 0), (29, .v (.bool o_6))], [.dead, .box [.v (.slice none 0 0), vi 0]], []⟩ : Bool → ASt) o_6) := by
  clear H
  have H := e_7
  clear e_7
  rcases ic H with ⟨h_9, H⟩ | ⟨h_9, H⟩
  ·obtain rfl := sj H
   exact fn [br h_9, pT, au, pT, au, pT]
  ·rcases ic H with ⟨h_10, H⟩ | ⟨h_10, H⟩
   ·obtain rfl := sj H
    exact fn [br h_9, pF, br h_10, pT, au, pT]
   ·rcases ic H with ⟨h_11, H⟩ | ⟨h_11, H⟩
    ·obtain rfl := sj H
     exact fn [br h_9, pF, br h_10, pF, br h_11, pT]
    ·obtain rfl := sj H
     exact fn [br h_9, pF, br h_10, pF, br h_11, pF]
 rcases ie H with ⟨h_12, H⟩ | ⟨h_12, H⟩
 ·obtain rfl := sj H
  exact thread_Do.F.runD thread_Do.G tb mixed [here 0, frz 0 [3] [], ron 3 none (cI .i64) a_4, sg_ 1 j_8, br h_12] rfl (by kernel_rfl) (by kernel_rfl)
 ·obtain ⟨o_16, e_17, H⟩ := bdE H
  have j_18 := Runs.loop (P := Try.prog) (N := thread_Do.F.N) (m0 := 1) (c := sub_ thread_Do.F.c [1, 1, 0, 1, 0, 0]) (f := (thread_Do.l1 a_1)) (St := fun s_15 => ⟨[(0, .ro false 5 a_1.length (a_1.map api_Inst.c)), (1, vi a_2), (2, vi a_3), (3, .ro false 1 a_4.length (a_4.map (cI .i64))), (8, .ref 1 0), (31, .ro false 5 a_1.length (a_1.map api_Inst.c)), (32, vi (a_1.length : Int)), (33, vi s_15)], [.dead, .box [.v (.slice none 0 0), vi 0]], []⟩) (xo := (fun o => match o with | Sum.inl _ => .ret | Sum.inr (_) => (.exit 0) : (Unit ⊕ Unit) → Ex)) (So := (fun o => match o with | Sum.inl s_19 => ⟨[(8, .ref 1 0)], [.dead, .box [.v (.slice none 0 0), vi 0]], []⟩ | Sum.inr (s_20) => ⟨[(0, .ro false 5 a_1.length (a_1.map api_Inst.c)), (1, vi a_2), (2, vi a_3), (3, .ro false 1 a_4.length (a_4.map (cI .i64))), (8, .ref 1 0)], [.dead, .box [.v (.slice none 0 0), vi 0]], []⟩ : (Unit ⊕ Unit) → ASt)) (by intro o; rcases o with _ | _ <;> simp) (fun s_15 z H => by
   unfold thread_Do.l1 at H
   rcases ic H with ⟨h_21, H⟩ | ⟨h_21, H⟩
   ·obtain ⟨g_22, H⟩ := gdE H
    let v_23 : api_Inst := gi a_1 s_15
    replace H := ltD H
    obtain ⟨r_24, e_25, H⟩ := bdE H
    rcases ic H with ⟨h_26, H⟩ | ⟨h_26, H⟩
    ·obtain rfl := sj H
     exact fn [br h_21, ix api_Inst.c g_22, ca [] (isa_Encode.ev e_25), bn h_26]
    ·obtain rfl := sj H
     exact fn [br h_21, ix api_Inst.c g_22, ca [] (isa_Encode.ev e_25), bn h_26]
   ·obtain rfl := sj H
    exact fn [br h_21] (by kernel_rfl)) e_17
  rcases o_16 with s_19 | s_20
  ·obtain rfl := sj H
   exact thread_Do.F.runD thread_Do.G tb mixed [here 0, frz 0 [3] [], ron 3 none (cI .i64) a_4, sg_ 1 j_8, br h_12, su j_18] rfl (by kernel_rfl) (by kernel_rfl)
  ·let v_27 : Int := wr .i64 (a_3 * 2 ^ (min (16 : Int).toNat 64))
   replace H := ltD H
   let v_28 : Int := wr .i64 ((1048576 : Int) + v_27)
   replace H := ltD H
   let v_29 : thread_cell := (Arr.r 32 ((thread_cell.mk 0 0) : thread_cell) : Arr thread_cell 32).g 1
   replace H := ltD H
   let v_30 : Arr thread_cell 32 := (Arr.r 32 ((thread_cell.mk 0 0) : thread_cell) : Arr thread_cell 32).s 1 (thread_cell.mk v_28 v_29.hang)
   replace H := ltD H
   let v_31 : thread_cell := v_30.g 2
   replace H := ltD H
   let v_32 : Arr thread_cell 32 := v_30.s 2 (thread_cell.mk 65536 v_31.hang)
   replace H := ltD H
   obtain ⟨o_36, e_37, H⟩ := bdE H
   have j_38 := Runs.loop (P := Try.prog) (N := thread_Do.F.N) (m0 := 4) (c := sub_ thread_Do.F.c [1, 1, 1, 1, 1, 1, 1, 0, 0]) (f := (thread_Do.l2 a_1 a_2 v_28)) (St := fun s_35 => ⟨[(0, .ro false 5 a_1.length (a_1.map api_Inst.c)), (8, .ref 1 0), (13, .ref 3 0), (14, vi s_35.2.2.2.2.2.2.2.2.2.2.2.1), (15, vi s_35.2.2.2.2.2.2.2.2.2.2.2.2)], [.dead, .box [.v (.slice none 0 0), vi 0], .seg [.c (.ro false 5 a_1.length (a_1.map api_Inst.c)), .c (vi a_2), .c (vi v_28), .c (.ro false 1 s_35.1.length (s_35.1.map (cI .i64))), .a 2 32 (s_35.2.1.l.map thread_cell.c), .a 2 400 (s_35.2.2.1.l.map thread_cell.c), .c (.v (.bool s_35.2.2.2.1)), .c (.v (.bool s_35.2.2.2.2.1)), .c (.v (.int .u64 s_35.2.2.2.2.2.1)), .c (.v (.int .u64 s_35.2.2.2.2.2.2.1)), .c (.v (.int .u64 s_35.2.2.2.2.2.2.2.1)), .c (vi s_35.2.2.2.2.2.2.2.2.1), .c (vi s_35.2.2.2.2.2.2.2.2.2.1), .c (sL 4 s_35.2.2.2.2.2.2.2.2.2.2.1)], .box [.ref 2 0], .arr true 48 8 s_35.2.2.2.2.2.2.2.2.2.2.1.length (s_35.2.2.2.2.2.2.2.2.2.2.1.map api_Event.c)], []⟩) (xo := (fun o => match o with | Sum.inl _ => .ret | Sum.inr (s_40) => (.pan (.ifc 97 (vi s_40.2.2.2.2.2.2.2.2.2.2.2))) : ((Int × (List Int) × (Arr thread_cell 32) × (Arr thread_cell 400) × Bool × Bool × Int × Int × Int × Int × Int × (List api_Event)) ⊕ ((List Int) × (Arr thread_cell 32) × (Arr thread_cell 400) × Bool × Bool × Int × Int × Int × Int × Int × (List api_Event) × Int)) → Ex)) (So := (fun o => match o with | Sum.inl s_39 => ⟨[(8, .ref 1 0)], [.dead, .box [.v (.slice none 0 0), vi s_39.1], .seg [.c (.ro false 5 a_1.length (a_1.map api_Inst.c)), .c (vi a_2), .c (vi v_28), .c (.ro false 1 s_39.2.1.length (s_39.2.1.map (cI .i64))), .a 2 32 (s_39.2.2.1.l.map thread_cell.c), .a 2 400 (s_39.2.2.2.1.l.map thread_cell.c), .c (.v (.bool s_39.2.2.2.2.1)), .c (.v (.bool s_39.2.2.2.2.2.1)), .c (.v (.int .u64 s_39.2.2.2.2.2.2.1)), .c (.v (.int .u64 s_39.2.2.2.2.2.2.2.1)), .c (.v (.int .u64 s_39.2.2.2.2.2.2.2.2.1)), .c (vi s_39.2.2.2.2.2.2.2.2.2.1), .c (vi s_39.2.2.2.2.2.2.2.2.2.2.1), .c (sL 4 s_39.2.2.2.2.2.2.2.2.2.2.2)], .box [.ref 2 0], .arr true 48 8 s_39.2.2.2.2.2.2.2.2.2.2.2.length (s_39.2.2.2.2.2.2.2.2.2.2.2.map api_Event.c)], []⟩ | Sum.inr (s_40) => ⟨[(8, .ref 1 0)], [.dead, .box [.v (.slice none 0 0), vi 0], .seg [.c (.ro false 5 a_1.length (a_1.map api_Inst.c)), .c (vi a_2), .c (vi v_28), .c (.ro false 1 s_40.1.length (s_40.1.map (cI .i64))), .a 2 32 (s_40.2.1.l.map thread_cell.c), .a 2 400 (s_40.2.2.1.l.map thread_cell.c), .c (.v (.bool s_40.2.2.2.1)), .c (.v (.bool s_40.2.2.2.2.1)), .c (.v (.int .u64 s_40.2.2.2.2.2.1)), .c (.v (.int .u64 s_40.2.2.2.2.2.2.1)), .c (.v (.int .u64 s_40.2.2.2.2.2.2.2.1)), .c (vi s_40.2.2.2.2.2.2.2.2.1), .c (vi s_40.2.2.2.2.2.2.2.2.2.1), .c (sL 4 s_40.2.2.2.2.2.2.2.2.2.2.1)], .box [.ref 2 0], .arr true 48 8 s_40.2.2.2.2.2.2.2.2.2.2.1.length (s_40.2.2.2.2.2.2.2.2.2.2.1.map api_Event.c)], []⟩ : ((Int × (List Int) × (Arr thread_cell 32) × (Arr thread_cell 400) × Bool × Bool × Int × Int × Int × Int × Int × (List api_Event)) ⊕ ((List Int) × (Arr thread_cell 32) × (Arr thread_cell 400) × Bool × Bool × Int × Int × Int × Int × Int × (List api_Event) × Int)) → ASt)) (by intro o; rcases o with _ | _ <;> simp) (fun s_35 z H => by
    unfold thread_Do.l2 at H
    obtain ⟨o_41, e_42, H⟩ := bdE H
    have j_43 : Rq thread_Do.F 4 [1, 1, 1, 1, 1, 1, 1, 0, 0, 0, 0, 0, 0] ⟨[(0, .ro false 5 a_1.length (a_1.map api_Inst.c)), (8, .ref 1 0), (13, .ref 3 0), (14, vi s_35.2.2.2.2.2.2.2.2.2.2.2.1), (15, vi s_35.2.2.2.2.2.2.2.2.2.2.2.2)], [.dead, .box [.v (.slice none 0 0), vi 0], .seg [.c (.ro false 5 a_1.length (a_1.map api_Inst.c)), .c (vi a_2), .c (vi v_28), .c (.ro false 1 s_35.1.length (s_35.1.map (cI .i64))), .a 2 32 (s_35.2.1.l.map thread_cell.c), .a 2 400 (s_35.2.2.1.l.map thread_cell.c), .c (.v (.bool s_35.2.2.2.1)), .c (.v (.bool s_35.2.2.2.2.1)), .c (.v (.int .u64 s_35.2.2.2.2.2.1)), .c (.v (.int .u64 s_35.2.2.2.2.2.2.1)), .c (.v (.int .u64 s_35.2.2.2.2.2.2.2.1)), .c (vi s_35.2.2.2.2.2.2.2.2.1), .c (vi s_35.2.2.2.2.2.2.2.2.2.1), .c (sL 4 s_35.2.2.2.2.2.2.2.2.2.2.1)], .box [.ref 2 0], .arr true 48 8 s_35.2.2.2.2.2.2.2.2.2.2.1.length (s_35.2.2.2.2.2.2.2.2.2.2.1.map api_Event.c)], []⟩ ((fun _ => .normal : Bool → Ex) o_41) ((fun o_41 => ⟨[(0, .ro false 5 a_1.length (a_1.map api_Inst.c)), (8, .ref 1 0), (13, .ref 3 0), (14, vi s_35.2.2.2.2.2.2.2.2.2.2.2.1), (15, vi s_35.2.2.2.2.2.2.2.2.2.2.2.2), (78, .v (.bool o_41))], [.dead, .box [.v (.slice none 0 0), vi 0], .seg [.c (.ro false 5 a_1.length (a_1.map api_Inst.c)), .c (vi a_2), .c (vi v_28), .c (.ro false 1 s_35.1.length (s_35.1.map (cI .i64))), .a 2 32 (s_35.2.1.l.map thread_cell.c), .a 2 400 (s_35.2.2.1.l.map thread_cell.c), .c (.v (.bool s_35.2.2.2.1)), .c (.v (.bool s_35.2.2.2.2.1)), .c (.v (.int .u64 s_35.2.2.2.2.2.1)), .c (.v (.int .u64 s_35.2.2.2.2.2.2.1)), .c (.v (.int .u64 s_35.2.2.2.2.2.2.2.1)), .c (vi s_35.2.2.2.2.2.2.2.2.1), .c (vi s_35.2.2.2.2.2.2.2.2.2.1), .c (sL 4 s_35.2.2.2.2.2.2.2.2.2.2.1)], .box [.ref 2 0], .arr true 48 8 s_35.2.2.2.2.2.2.2.2.2.2.1.length (s_35.2.2.2.2.2.2.2.2.2.2.1.map api_Event.c)], []⟩ : Bool → ASt) o_41) := by
     clear H
     have H := e_42
     clear e_42
     rcases ic H with ⟨h_44, H⟩ | ⟨h_44, H⟩
     ·obtain rfl := sj H
      exact fn [br h_44, pT]
     ·obtain rfl := sj H
      exact fn [br h_44, pF]
    rcases ie H with ⟨h_45, H⟩ | ⟨h_45, H⟩
    ·obtain rfl := sj H
     exact fn [sg_ 15 j_43, br h_45]
    ·rcases ic H with ⟨h_46, H⟩ | ⟨h_46, H⟩
     ·obtain rfl := sj H
      exact fn [sg_ 15 j_43, br h_45, br h_46]
     ·obtain ⟨g_47, H⟩ := gdE H
      let v_48 : api_Inst := gi a_1 s_35.2.2.2.2.2.2.2.2.2.2.2.1
      replace H := ltD H
      obtain ⟨r_49, e_50, H⟩ := bdE H
      rcases r_49 with r_51 | r_52
      ·let v_53 : Int := wr .i64 (s_35.2.2.2.2.2.2.2.2.2.2.2.1 + r_51.2.2.2.2.2.2.2.2.2.2.2)
       replace H := ltD H
       let v_54 : Int := wr .i64 (s_35.2.2.2.2.2.2.2.2.2.2.2.2 + 1)
       replace H := ltD H
       obtain rfl := sj H
       exact fn [sg_ 15 j_43, br h_45, br h_46, ix api_Inst.c g_47, ca [2, 4] (thread_thread_step_2.ev e_50)]
      ·obtain rfl := sj H
       exact fn [sg_ 15 j_43, br h_45, br h_46, ix api_Inst.c g_47, ca [2, 4] (thread_thread_step_2.ev e_50)] (by kernel_rfl)) e_37
   rcases o_36 with s_39 | s_40
   ·obtain rfl := sj H
    exact thread_Do.F.runD thread_Do.G tb mixed [here 0, frz 0 [3] [], ron 3 none (cI .i64) a_4, sg_ 1 j_8, br h_12, su j_18, pf (by decide : 0 ≤ (16 : Int)), on_ 53 (sgn [.c (.ro false 5 a_1.length (a_1.map api_Inst.c)), .c (vi a_2), .c (vi v_28), .c (.ro false 1 a_4.length (a_4.map (cI .i64))), .a 2 32 ((Arr.r 32 ((thread_cell.mk 0 0) : thread_cell) : Arr thread_cell 32).l.map thread_cell.c), .a 2 400 ((Arr.r 400 ((thread_cell.mk 0 0) : thread_cell) : Arr thread_cell 400).l.map thread_cell.c), .c (.v (.bool false)), .c (.v (.bool false)), .c (.v (.int .u64 0)), .c (.v (.int .u64 0)), .c (.v (.int .u64 0)), .c (vi (-1)), .c (vi 0), .c (.v (.slice none 0 0))]), pf (by decide : 0 ≤ (1 : Int) ∧ (1 : Int) < ((32 : Nat) : Int)), sgs thread_cell.c (Arr.r 32 ((thread_cell.mk 0 0) : thread_cell) : Arr thread_cell 32) 4 0 [vi v_28] (thread_cell.mk v_28 v_29.hang) (by decide : 0 ≤ (1 : Int) ∧ (1 : Int) < ((32 : Nat) : Int)) (by kernel_rfl), pf (by decide : 0 ≤ (2 : Int) ∧ (2 : Int) < ((32 : Nat) : Int)), sgs thread_cell.c v_30 4 0 [vi 65536] (thread_cell.mk 65536 v_31.hang) (by decide : 0 ≤ (2 : Int) ∧ (2 : Int) < ((32 : Nat) : Int)) (by kernel_rfl), su j_38, adB 2 13 (some 48) 8, au] rfl (by kernel_rfl) (by kernel_rfl)
   ·obtain rfl := sj H
    exact thread_Do.F.runD thread_Do.G tb mixed [here 0, frz 0 [3] [], ron 3 none (cI .i64) a_4, sg_ 1 j_8, br h_12, su j_18, pf (by decide : 0 ≤ (16 : Int)), on_ 53 (sgn [.c (.ro false 5 a_1.length (a_1.map api_Inst.c)), .c (vi a_2), .c (vi v_28), .c (.ro false 1 a_4.length (a_4.map (cI .i64))), .a 2 32 ((Arr.r 32 ((thread_cell.mk 0 0) : thread_cell) : Arr thread_cell 32).l.map thread_cell.c), .a 2 400 ((Arr.r 400 ((thread_cell.mk 0 0) : thread_cell) : Arr thread_cell 400).l.map thread_cell.c), .c (.v (.bool false)), .c (.v (.bool false)), .c (.v (.int .u64 0)), .c (.v (.int .u64 0)), .c (.v (.int .u64 0)), .c (vi (-1)), .c (vi 0), .c (.v (.slice none 0 0))]), pf (by decide : 0 ≤ (1 : Int) ∧ (1 : Int) < ((32 : Nat) : Int)), sgs thread_cell.c (Arr.r 32 ((thread_cell.mk 0 0) : thread_cell) : Arr thread_cell 32) 4 0 [vi v_28] (thread_cell.mk v_28 v_29.hang) (by decide : 0 ≤ (1 : Int) ∧ (1 : Int) < ((32 : Nat) : Int)) (by kernel_rfl), pf (by decide : 0 ≤ (2 : Int) ∧ (2 : Int) < ((32 : Nat) : Int)), sgs thread_cell.c v_30 4 0 [vi 65536] (thread_cell.mk 65536 v_31.hang) (by decide : 0 ≤ (2 : Int) ∧ (2 : Int) < ((32 : Nat) : Int)) (by kernel_rfl), su j_38, adB 2 13 (some 48) 8, au] rfl (by kernel_rfl) (by kernel_rfl)
def thread_Do.k2 (a_1 : List api_Inst) (a_2 : Int) (v_28 : Int) (s_35 : (List Int) × (Arr thread_cell 32) × (Arr thread_cell 400) × Bool × Bool × Int × Int × Int × Int × Int × (List api_Event) × Int × Int) : Option (((List Int) × (Arr thread_cell 32) × (Arr thread_cell 400) × Bool × Bool × Int × Int × Int × Int × Int × (List api_Event) × Int × Int) ⊕ ((Int × (List Int) × (Arr thread_cell 32) × (Arr thread_cell 400) × Bool × Bool × Int × Int × Int × Int × Int × (List api_Event)) ⊕ ((List Int) × (Arr thread_cell 32) × (Arr thread_cell 400) × Bool × Bool × Int × Int × Int × Int × Int × (List api_Event) × Int))) :=
 (if s_35.2.2.2.2.2.2.2.2.2.2.2.1 < 0 then (some (true : Bool)) else (some ((decide (s_35.2.2.2.2.2.2.2.2.2.2.2.1 ≥ (a_1.length : Int))) : Bool)) : Option Bool).bind fun o_41 => if o_41 = true then (some (Sum.inr (Sum.inl (6, s_35.1, s_35.2.1, s_35.2.2.1, s_35.2.2.2.1, s_35.2.2.2.2.1, s_35.2.2.2.2.2.1, s_35.2.2.2.2.2.2.1, s_35.2.2.2.2.2.2.2.1, s_35.2.2.2.2.2.2.2.2.1, s_35.2.2.2.2.2.2.2.2.2.1, s_35.2.2.2.2.2.2.2.2.2.2.1)))) else (if s_35.2.2.2.2.2.2.2.2.2.2.2.2 = 8000 then (some (Sum.inr (Sum.inl (5, s_35.1, s_35.2.1, s_35.2.2.1, s_35.2.2.2.1, s_35.2.2.2.2.1, s_35.2.2.2.2.2.1, s_35.2.2.2.2.2.2.1, s_35.2.2.2.2.2.2.2.1, s_35.2.2.2.2.2.2.2.2.1, s_35.2.2.2.2.2.2.2.2.2.1, s_35.2.2.2.2.2.2.2.2.2.2.1)))) else (if 0 ≤ s_35.2.2.2.2.2.2.2.2.2.2.2.1 ∧ s_35.2.2.2.2.2.2.2.2.2.2.2.1 < (a_1.length : Int) then (letK (gi a_1 s_35.2.2.2.2.2.2.2.2.2.2.2.1) fun v_48 => (thread_thread_step_2.m v_48 a_1 a_2 v_28 s_35.1 s_35.2.1 s_35.2.2.1 s_35.2.2.2.1 s_35.2.2.2.2.1 s_35.2.2.2.2.2.1 s_35.2.2.2.2.2.2.1 s_35.2.2.2.2.2.2.2.1 s_35.2.2.2.2.2.2.2.2.1 s_35.2.2.2.2.2.2.2.2.2.1 s_35.2.2.2.2.2.2.2.2.2.2.1).bind fun r_49 => match r_49 with | Sum.inl r_51 => (letK (wr .i64 (s_35.2.2.2.2.2.2.2.2.2.2.2.1 + r_51.2.2.2.2.2.2.2.2.2.2.2)) fun v_53 => letK (wr .i64 (s_35.2.2.2.2.2.2.2.2.2.2.2.2 + 1)) fun v_54 => some (Sum.inl (r_51.1, r_51.2.1, r_51.2.2.1, r_51.2.2.2.1, r_51.2.2.2.2.1, r_51.2.2.2.2.2.1, r_51.2.2.2.2.2.2.1, r_51.2.2.2.2.2.2.2.1, r_51.2.2.2.2.2.2.2.2.1, r_51.2.2.2.2.2.2.2.2.2.1, r_51.2.2.2.2.2.2.2.2.2.2.1, v_53, v_54))) | Sum.inr (r_52) => (some (Sum.inr (Sum.inr ((s_35.1, s_35.2.1, s_35.2.2.1, s_35.2.2.2.1, s_35.2.2.2.2.1, s_35.2.2.2.2.2.1, s_35.2.2.2.2.2.2.1, s_35.2.2.2.2.2.2.2.1, s_35.2.2.2.2.2.2.2.2.1, s_35.2.2.2.2.2.2.2.2.2.1, s_35.2.2.2.2.2.2.2.2.2.2.1, r_52)))))) else none))
theorem thread_Do.k2_le (a_1 : List api_Inst) (a_2 : Int) (v_28 : Int) (s_35 : (List Int) × (Arr thread_cell 32) × (Arr thread_cell 400) × Bool × Bool × Int × Int × Int × Int × Int × (List api_Event) × Int × Int) : OLe (thread_Do.k2 a_1 a_2 v_28 s_35) (thread_Do.l2 a_1 a_2 v_28 s_35) := by
 unfold thread_Do.k2 thread_Do.l2
 repeat' with_reducible first | refine OLe.lt (fun _ => ?_) | refine OLe.lp (fun _ => ?_) | refine OLe.bind ?_ (fun _ => ?_) | refine OLe.ite ?_ ?_ | exact OLe.rfl' | split
 all_goals (exfalso; simp_all)
def thread_Do.k1 (a_1 : List api_Inst) (s_15 : Int) : Option (Int ⊕ (Unit ⊕ Unit)) :=
 if s_15 < (a_1.length : Int) then (if 0 ≤ s_15 ∧ s_15 < (a_1.length : Int) then (letK (gi a_1 s_15) fun v_23 => (isa_Encode.m v_23).bind fun r_24 => if r_24.2 = 0 then (some (Sum.inl (wr .i64 (s_15 + 1)))) else (some (Sum.inr (Sum.inl ())))) else none) else (some (Sum.inr (Sum.inr (()))))
theorem thread_Do.k1_le (a_1 : List api_Inst) (s_15 : Int) : OLe (thread_Do.k1 a_1 s_15) (thread_Do.l1 a_1 s_15) := by
 unfold thread_Do.k1 thread_Do.l1
 repeat' with_reducible first | exact thread_Do.k2_le .. | refine OLe.lt (fun _ => ?_) | refine OLe.lp (fun _ => ?_) | refine OLe.bind ?_ (fun _ => ?_) | refine OLe.ite ?_ ?_ | exact OLe.rfl' | split
def thread_Do.k (a_1 : List api_Inst) (a_2 : Int) (a_3 : Int) (a_4 : List Int) (a_5 : Nat) : Option (Unit ⊕ ((List api_Event) × Int)) :=
 (if a_2 < 0 then (some (true : Bool)) else (if a_2 > 16 then (some (true : Bool)) else (if a_3 < 0 then (some (true : Bool)) else (some ((decide (a_3 ≥ 3)) : Bool)))) : Option Bool).bind fun o_6 => if o_6 = true then (some (Sum.inl ())) else ((lpK (thread_Do.k1 a_1) (0 : Int)).bind fun o_16 => match o_16 with | Sum.inl s_19 => (some (Sum.inl ())) | Sum.inr (s_20) => (letK (wr .i64 (a_3 * 2 ^ (min (16 : Int).toNat 64))) fun v_27 => letK (wr .i64 ((1048576 : Int) + v_27)) fun v_28 => letK ((Arr.r 32 ((thread_cell.mk 0 0) : thread_cell) : Arr thread_cell 32).g 1) fun v_29 => letK ((Arr.r 32 ((thread_cell.mk 0 0) : thread_cell) : Arr thread_cell 32).s 1 (thread_cell.mk v_28 v_29.hang)) fun v_30 => letK (v_30.g 2) fun v_31 => letK (v_30.s 2 (thread_cell.mk 65536 v_31.hang)) fun v_32 => (lpK (thread_Do.k2 a_1 a_2 v_28) ((a_4, v_32, (Arr.r 400 ((thread_cell.mk 0 0) : thread_cell) : Arr thread_cell 400), false, false, 0, 0, 0, (-1), 0, ([] : List api_Event), 0, 0) : (List Int) × (Arr thread_cell 32) × (Arr thread_cell 400) × Bool × Bool × Int × Int × Int × Int × Int × (List api_Event) × Int × Int)).bind fun o_36 => match o_36 with | Sum.inl s_39 => (some (Sum.inr ((s_39.2.2.2.2.2.2.2.2.2.2.2, s_39.1)))) | Sum.inr (s_40) => (some (Sum.inr ((s_40.2.2.2.2.2.2.2.2.2.2.1, s_40.2.2.2.2.2.2.2.2.2.2.2))))))
theorem thread_Do.k_le (a_1 : List api_Inst) (a_2 : Int) (a_3 : Int) (a_4 : List Int) (a_5 : Nat) : OLe (thread_Do.k a_1 a_2 a_3 a_4 a_5) (thread_Do.m a_1 a_2 a_3 a_4 a_5) := by
 unfold thread_Do.k thread_Do.m
 repeat' with_reducible first | exact thread_Do.k2_le .. | exact thread_Do.k1_le .. | refine OLe.lt (fun _ => ?_) | refine OLe.lp (fun _ => ?_) | refine OLe.bind ?_ (fun _ => ?_) | refine OLe.ite ?_ ?_ | exact OLe.rfl' | split
 all_goals (exfalso; simp_all)
noncomputable def thread_Acts_1.F : FI Try.prog 32 := fi Try.f32 33 Try.call32 Try.func32
def thread_Acts_1.m (a_1 : Int) (a_2 : List api_Event) : Option (Bool) :=
 if 0 ≤ a_1 ∧ a_1 < (a_2.length : Int) then (letC (gi a_2 a_1) fun v_4 => if v_4.Kind = 2 then (if v_4.Pair ≥ 1 then (if v_4.Pair ≤ a_1 then (letC (wr .i64 (v_4.Pair - 1)) fun v_8 => if 0 ≤ v_8 ∧ v_8 < (a_2.length : Int) then (letC (gi a_2 v_8) fun v_10 => some (decide (v_10.Kind = 1))) else none) else (some false)) else (some false)) else (some false)) else none
noncomputable def thread_Acts_1.o (a_1 : Int) (a_2 : List api_Event) (r : Bool) : Out := .ret (.v (.bool r)) [.box [.ro false 8 a_2.length (a_2.map api_Event.c)]] []
theorem thread_Acts_1.ev {a_1 : Int} {a_2 : List api_Event} {r : Bool} (H : thread_Acts_1.m a_1 a_2 = some r) : Ev Try.prog 32 [vi a_1, .ref 0 0] [.box [.ro false 8 a_2.length (a_2.map api_Event.c)]] [] (thread_Acts_1.o a_1 a_2 r) := by
 unfold thread_Acts_1.m at H
 obtain ⟨g_3, H⟩ := gdE H
 let v_4 : api_Event := gi a_2 a_1
 replace H := ltD H
 rcases ic H with ⟨h_5, H⟩ | ⟨h_5, H⟩
 ·rcases ic H with ⟨h_6, H⟩ | ⟨h_6, H⟩
  ·rcases ic H with ⟨h_7, H⟩ | ⟨h_7, H⟩
   ·let v_8 : Int := wr .i64 (v_4.Pair - 1)
    replace H := ltD H
    obtain ⟨g_9, H⟩ := gdE H
    let v_10 : api_Event := gi a_2 v_8
    replace H := ltD H
    obtain rfl := sj H
    exact thread_Acts_1.F.run tb mixed [ix api_Event.c g_3, br h_5, pT, br h_6, pT, br h_7, ix api_Event.c g_9, pT] rfl (by kernel_rfl)
   ·obtain rfl := sj H
    exact thread_Acts_1.F.run tb mixed [ix api_Event.c g_3, br h_5, pT, br h_6, pT, br h_7, pF] rfl (by kernel_rfl)
  ·obtain rfl := sj H
   exact thread_Acts_1.F.run tb mixed [ix api_Event.c g_3, br h_5, pT, br h_6, pF, au, pF] rfl (by kernel_rfl)
 ·obtain rfl := sj H
  exact thread_Acts_1.F.run tb mixed [ix api_Event.c g_3, br h_5, pF, au, pF, au, pF] rfl (by kernel_rfl)
end Go.Proofs.Ytbhekpcimmaijaa

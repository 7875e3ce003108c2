/- QC: several texts in one. -/
import Derived.Test.YtbhekpcimmaijaaQA
import Derived.Test.YtbhekpcimmaijaaQB
import Derived.Test.YtbhekpcimmaijaaLE
set_option linter.unusedVariables false
set_option linter.unusedSimpArgs false
set_option linter.unusedSectionVars false
set_option maxRecDepth 100000
namespace Go.Proofs.Ytbhekpcimmaijaa
open Go Go.RowKit Go.Proofs Go.Proofs.Ytbhekpcimmaijaa.X
open Go.Proofs.Ytbhekpcimmaijaa.B (wr sb feq fls qf flt i2f aget aset isnan isnan_flt)
noncomputable def thread_Do.F : FI Try.prog 14 := ⟨Try.f14, 91, (Try.f14.body.getD .skip), Try.f14.results.toList, Try.call14, Try.func14, by kernel_rfl, by kernel_rfl, by kernel_rfl⟩
noncomputable def thread_Do.G : FI Try.prog 30 := ⟨Try.f30, 14, (Try.f30.body.getD .skip), Try.f30.results.toList, Try.call30, Try.func30, by kernel_rfl, by kernel_rfl, by kernel_rfl⟩
def thread_Do.l2 (a_1 : List api_Inst) (a_2 : Int) (v_28 : Int) (s_35 : (List Int) × (Arr thread_cell 32) × (Arr thread_cell 400) × Bool × Bool × Int × Int × Int × Int × Int × (List api_Event) × Int × Int) : Option (((List Int) × (Arr thread_cell 32) × (Arr thread_cell 400) × Bool × Bool × Int × Int × Int × Int × Int × (List api_Event) × Int × Int) ⊕ ((Int × (List Int) × (Arr thread_cell 32) × (Arr thread_cell 400) × Bool × Bool × Int × Int × Int × Int × Int × (List api_Event)) ⊕ ((List Int) × (Arr thread_cell 32) × (Arr thread_cell 400) × Bool × Bool × Int × Int × Int × Int × Int × (List api_Event) × Int))) :=
 (if s_35.2.2.2.2.2.2.2.2.2.2.2.1 < 0 then (some (true : Bool)) else (some ((decide (s_35.2.2.2.2.2.2.2.2.2.2.2.1 ≥ (a_1.length : Int))) : Bool)) : Option Bool).bind fun o_41 => if o_41 = true then (some (Sum.inr (Sum.inl (6, s_35.1, s_35.2.1, s_35.2.2.1, s_35.2.2.2.1, s_35.2.2.2.2.1, s_35.2.2.2.2.2.1, s_35.2.2.2.2.2.2.1, s_35.2.2.2.2.2.2.2.1, s_35.2.2.2.2.2.2.2.2.1, s_35.2.2.2.2.2.2.2.2.2.1, s_35.2.2.2.2.2.2.2.2.2.2.1)))) else (if s_35.2.2.2.2.2.2.2.2.2.2.2.2 = 8000 then (some (Sum.inr (Sum.inl (5, s_35.1, s_35.2.1, s_35.2.2.1, s_35.2.2.2.1, s_35.2.2.2.2.1, s_35.2.2.2.2.2.1, s_35.2.2.2.2.2.2.1, s_35.2.2.2.2.2.2.2.1, s_35.2.2.2.2.2.2.2.2.1, s_35.2.2.2.2.2.2.2.2.2.1, s_35.2.2.2.2.2.2.2.2.2.2.1)))) else (if 0 ≤ s_35.2.2.2.2.2.2.2.2.2.2.2.1 ∧ s_35.2.2.2.2.2.2.2.2.2.2.2.1 < (a_1.length : Int) then (letC (gi a_1 s_35.2.2.2.2.2.2.2.2.2.2.2.1) fun v_48 => (thread_thread_step_2.m v_48 a_1 a_2 v_28 s_35.1 s_35.2.1 s_35.2.2.1 s_35.2.2.2.1 s_35.2.2.2.2.1 s_35.2.2.2.2.2.1 s_35.2.2.2.2.2.2.1 s_35.2.2.2.2.2.2.2.1 s_35.2.2.2.2.2.2.2.2.1 s_35.2.2.2.2.2.2.2.2.2.1 s_35.2.2.2.2.2.2.2.2.2.2.1).bind fun r_49 => match r_49 with | Sum.inl r_51 => (letC (wr .i64 (s_35.2.2.2.2.2.2.2.2.2.2.2.1 + r_51.2.2.2.2.2.2.2.2.2.2.2)) fun v_53 => letC (wr .i64 (s_35.2.2.2.2.2.2.2.2.2.2.2.2 + 1)) fun v_54 => some (Sum.inl (r_51.1, r_51.2.1, r_51.2.2.1, r_51.2.2.2.1, r_51.2.2.2.2.1, r_51.2.2.2.2.2.1, r_51.2.2.2.2.2.2.1, r_51.2.2.2.2.2.2.2.1, r_51.2.2.2.2.2.2.2.2.1, r_51.2.2.2.2.2.2.2.2.2.1, r_51.2.2.2.2.2.2.2.2.2.2.1, v_53, v_54))) | Sum.inr (r_52) => (some (Sum.inr (Sum.inr ((s_35.1, s_35.2.1, s_35.2.2.1, s_35.2.2.2.1, s_35.2.2.2.2.1, s_35.2.2.2.2.2.1, s_35.2.2.2.2.2.2.1, s_35.2.2.2.2.2.2.2.1, s_35.2.2.2.2.2.2.2.2.1, s_35.2.2.2.2.2.2.2.2.2.1, s_35.2.2.2.2.2.2.2.2.2.2.1, r_52)))))) else none))
def thread_Do.l1 (a_1 : List api_Inst) (s_15 : Int) : Option (Int ⊕ (Unit ⊕ Unit)) :=
 if s_15 < (a_1.length : Int) then (if 0 ≤ s_15 ∧ s_15 < (a_1.length : Int) then (letC (gi a_1 s_15) fun v_23 => (isa_Encode.m v_23).bind fun r_24 => if r_24.2 = 0 then (some (Sum.inl (wr .i64 (s_15 + 1)))) else (some (Sum.inr (Sum.inl ())))) else none) else (some (Sum.inr (Sum.inr (()))))
def thread_Do.m (a_1 : List api_Inst) (a_2 : Int) (a_3 : Int) (a_4 : List Int) (a_5 : Nat) : Option (Unit ⊕ ((List api_Event) × Int)) :=
 (if a_2 < 0 then (some (true : Bool)) else (if a_2 > 16 then (some (true : Bool)) else (if a_3 < 0 then (some (true : Bool)) else (some ((decide (a_3 ≥ 3)) : Bool)))) : Option Bool).bind fun o_6 => if o_6 = true then (some (Sum.inl ())) else ((B.loop (thread_Do.l1 a_1) (0 : Int)).bind fun o_16 => match o_16 with | Sum.inl s_19 => (some (Sum.inl ())) | Sum.inr (s_20) => (letC (wr .i64 (a_3 * 2 ^ (min (16 : Int).toNat 64))) fun v_27 => letC (wr .i64 ((1048576 : Int) + v_27)) fun v_28 => letC ((Arr.r 32 ((thread_cell.mk 0 0) : thread_cell) : Arr thread_cell 32).g 1) fun v_29 => letC ((Arr.r 32 ((thread_cell.mk 0 0) : thread_cell) : Arr thread_cell 32).s 1 (thread_cell.mk v_28 v_29.hang)) fun v_30 => letC (v_30.g 2) fun v_31 => letC (v_30.s 2 (thread_cell.mk 65536 v_31.hang)) fun v_32 => (B.loop (thread_Do.l2 a_1 a_2 v_28) ((a_4, v_32, (Arr.r 400 ((thread_cell.mk 0 0) : thread_cell) : Arr thread_cell 400), false, false, 0, 0, 0, (-1), 0, ([] : List api_Event), 0, 0) : (List Int) × (Arr thread_cell 32) × (Arr thread_cell 400) × Bool × Bool × Int × Int × Int × Int × Int × (List api_Event) × Int × Int)).bind fun o_36 => match o_36 with | Sum.inl s_39 => (some (Sum.inr ((s_39.2.2.2.2.2.2.2.2.2.2.2, s_39.1)))) | Sum.inr (s_40) => (some (Sum.inr ((s_40.2.2.2.2.2.2.2.2.2.2.1, s_40.2.2.2.2.2.2.2.2.2.2.2))))))
noncomputable def thread_Do.o (a_1 : List api_Inst) (a_2 : Int) (a_3 : Int) (a_4 : List Int) (a_5 : Nat) (r : Unit ⊕ ((List api_Event) × Int)) : Out := match r with | Sum.inl r => .ret (.agg [.v (.slice none 0 0), .v (.int .i64 0)]) [.dead] [] | Sum.inr (r) => .ret (.agg [.sl 0 4 r.1.length 0 r.1.length, .v (.int .i64 r.2)]) [.dead, .dead, .dead, .dead, .arr true 48 8 r.1.length (r.1.map api_Event.c)] []
theorem thread_Do.ev {a_1 : List api_Inst} {a_2 : Int} {a_3 : Int} {a_4 : List Int} {a_5 : Nat} {r : Unit ⊕ ((List api_Event) × Int)} (H : thread_Do.m a_1 a_2 a_3 a_4 a_5 = some r) : Ev Try.prog 14 [.ro false 5 a_1.length (a_1.map api_Inst.c), .v (.int .i64 a_2), .v (.int .i64 a_3), .sl 0 0 a_5 0 a_5] [.arr false 2 1 a_5 (a_4.map (cI .i64))] [] (thread_Do.o a_1 a_2 a_3 a_4 a_5 r) := by
 unfold thread_Do.m at H
 obtain ⟨o_6, e_7, H⟩ := bdE H
 have j_8 : Runs Try.prog thread_Do.F.N 1 (sub_ thread_Do.F.c [1, 0, 0]) ⟨[(0, .ro false 5 a_1.length (a_1.map api_Inst.c)), (1, .v (.int .i64 a_2)), (2, .v (.int .i64 a_3)), (3, .ro false 1 a_4.length (a_4.map (cI .i64))), (8, .ref 1 0)], [.dead, .box [.v (.slice none 0 0), .v (.int .i64 0)]], []⟩ ((fun _ => .normal : Bool → Ex) o_6) ((fun o_6 => ⟨[(0, .ro false 5 a_1.length (a_1.map api_Inst.c)), (1, .v (.int .i64 a_2)), (2, .v (.int .i64 a_3)), (3, .ro false 1 a_4.length (a_4.map (cI .i64))), (8, .ref 1 0), (29, .v (.bool o_6))], [.dead, .box [.v (.slice none 0 0), .v (.int .i64 0)]], []⟩ : Bool → ASt) o_6) := by
  clear H
  have H := e_7
  clear e_7
  rcases ic H with ⟨h_9, H⟩ | ⟨h_9, H⟩
  ·obtain rfl := sj H
   exact fn [br h_9, pT, au, pT, au, pT] (by kernel_rfl)
  ·rcases ic H with ⟨h_10, H⟩ | ⟨h_10, H⟩
   ·obtain rfl := sj H
    exact fn [br h_9, pF, br h_10, pT, au, pT] (by kernel_rfl)
   ·rcases ic H with ⟨h_11, H⟩ | ⟨h_11, H⟩
    ·obtain rfl := sj H
     exact fn [br h_9, pF, br h_10, pF, br h_11, pT] (by kernel_rfl)
    ·obtain rfl := sj H
     exact fn [br h_9, pF, br h_10, pF, br h_11, pF] (by kernel_rfl)
 rcases ie H with ⟨h_12, H⟩ | ⟨h_12, H⟩
 ·obtain rfl := sj H
  exact thread_Do.F.runD thread_Do.G tb mixed [here 0, frz 0 [3] [], ron 3 none (cI .i64) a_4, sg_ 1 j_8, br h_12] rfl (by kernel_rfl) (by kernel_rfl)
 ·obtain ⟨o_16, e_17, H⟩ := bdE H
  have j_18 := Runs.loop (P := Try.prog) (N := thread_Do.F.N) (m0 := 1) (c := sub_ thread_Do.F.c [1, 1, 0, 1, 0, 0]) (f := (thread_Do.l1 a_1)) (St := fun s_15 => ⟨[(0, .ro false 5 a_1.length (a_1.map api_Inst.c)), (1, .v (.int .i64 a_2)), (2, .v (.int .i64 a_3)), (3, .ro false 1 a_4.length (a_4.map (cI .i64))), (8, .ref 1 0), (31, .ro false 5 a_1.length (a_1.map api_Inst.c)), (32, .v (.int .i64 (a_1.length : Int))), (33, .v (.int .i64 s_15))], [.dead, .box [.v (.slice none 0 0), .v (.int .i64 0)]], []⟩) (xo := (fun o => match o with | Sum.inl _ => .ret | Sum.inr (_) => (.exit 0) : (Unit ⊕ Unit) → Ex)) (So := (fun o => match o with | Sum.inl s_19 => ⟨[(8, .ref 1 0)], [.dead, .box [.v (.slice none 0 0), .v (.int .i64 0)]], []⟩ | Sum.inr (s_20) => ⟨[(0, .ro false 5 a_1.length (a_1.map api_Inst.c)), (1, .v (.int .i64 a_2)), (2, .v (.int .i64 a_3)), (3, .ro false 1 a_4.length (a_4.map (cI .i64))), (8, .ref 1 0)], [.dead, .box [.v (.slice none 0 0), .v (.int .i64 0)]], []⟩ : (Unit ⊕ Unit) → ASt)) (by intro o; rcases o with _ | _ <;> simp) (fun s_15 z H => by
   unfold thread_Do.l1 at H
   rcases ic H with ⟨h_21, H⟩ | ⟨h_21, H⟩
   ·obtain ⟨g_22, H⟩ := gdE H
    let v_23 : api_Inst := gi a_1 s_15
    replace H := ltD H
    obtain ⟨r_24, e_25, H⟩ := bdE H
    rcases ic H with ⟨h_26, H⟩ | ⟨h_26, H⟩
    ·obtain rfl := sj H
     exact fn [br h_21, ix api_Inst.c g_22, ca [] (isa_Encode.ev e_25), bn h_26] (by kernel_rfl)
    ·obtain rfl := sj H
     exact fn [br h_21, ix api_Inst.c g_22, ca [] (isa_Encode.ev e_25), bn h_26] (by kernel_rfl)
   ·obtain rfl := sj H
    exact fn [br h_21] (by kernel_rfl)) e_17
  rcases o_16 with s_19 | s_20
  ·obtain rfl := sj H
   exact thread_Do.F.runD thread_Do.G tb mixed [here 0, frz 0 [3] [], ron 3 none (cI .i64) a_4, sg_ 1 j_8, br h_12, su j_18] rfl (by kernel_rfl) (by kernel_rfl)
  ·let v_27 : Int := wr .i64 (a_3 * 2 ^ (min (16 : Int).toNat 64))
   replace H := ltD H
   let v_28 : Int := wr .i64 ((1048576 : Int) + v_27)
   replace H := ltD H
   let v_29 : thread_cell := (Arr.r 32 ((thread_cell.mk 0 0) : thread_cell) : Arr thread_cell 32).g 1
   replace H := ltD H
   let v_30 : Arr thread_cell 32 := (Arr.r 32 ((thread_cell.mk 0 0) : thread_cell) : Arr thread_cell 32).s 1 (thread_cell.mk v_28 v_29.hang)
   replace H := ltD H
   let v_31 : thread_cell := v_30.g 2
   replace H := ltD H
   let v_32 : Arr thread_cell 32 := v_30.s 2 (thread_cell.mk 65536 v_31.hang)
   replace H := ltD H
   obtain ⟨o_36, e_37, H⟩ := bdE H
   have j_38 := Runs.loop (P := Try.prog) (N := thread_Do.F.N) (m0 := 4) (c := sub_ thread_Do.F.c [1, 1, 1, 1, 1, 1, 1, 0, 0]) (f := (thread_Do.l2 a_1 a_2 v_28)) (St := fun s_35 => ⟨[(0, .ro false 5 a_1.length (a_1.map api_Inst.c)), (8, .ref 1 0), (13, .ref 3 0), (14, .v (.int .i64 s_35.2.2.2.2.2.2.2.2.2.2.2.1)), (15, .v (.int .i64 s_35.2.2.2.2.2.2.2.2.2.2.2.2))], [.dead, .box [.v (.slice none 0 0), .v (.int .i64 0)], .seg [.c (.ro false 5 a_1.length (a_1.map api_Inst.c)), .c (.v (.int .i64 a_2)), .c (.v (.int .i64 v_28)), .c (.ro false 1 s_35.1.length (s_35.1.map (cI .i64))), .a 2 32 (s_35.2.1.l.map thread_cell.c), .a 2 400 (s_35.2.2.1.l.map thread_cell.c), .c (.v (.bool s_35.2.2.2.1)), .c (.v (.bool s_35.2.2.2.2.1)), .c (.v (.int .u64 s_35.2.2.2.2.2.1)), .c (.v (.int .u64 s_35.2.2.2.2.2.2.1)), .c (.v (.int .u64 s_35.2.2.2.2.2.2.2.1)), .c (.v (.int .i64 s_35.2.2.2.2.2.2.2.2.1)), .c (.v (.int .i64 s_35.2.2.2.2.2.2.2.2.2.1)), .c (.sl 0 4 s_35.2.2.2.2.2.2.2.2.2.2.1.length 0 s_35.2.2.2.2.2.2.2.2.2.2.1.length)], .box [.ref 2 0], .arr true 48 8 s_35.2.2.2.2.2.2.2.2.2.2.1.length (s_35.2.2.2.2.2.2.2.2.2.2.1.map api_Event.c)], []⟩) (xo := (fun o => match o with | Sum.inl _ => .ret | Sum.inr (s_40) => (.pan (.ifc 97 (.v (.int .i64 s_40.2.2.2.2.2.2.2.2.2.2.2)))) : ((Int × (List Int) × (Arr thread_cell 32) × (Arr thread_cell 400) × Bool × Bool × Int × Int × Int × Int × Int × (List api_Event)) ⊕ ((List Int) × (Arr thread_cell 32) × (Arr thread_cell 400) × Bool × Bool × Int × Int × Int × Int × Int × (List api_Event) × Int)) → Ex)) (So := (fun o => match o with | Sum.inl s_39 => ⟨[(8, .ref 1 0)], [.dead, .box [.v (.slice none 0 0), .v (.int .i64 s_39.1)], .seg [.c (.ro false 5 a_1.length (a_1.map api_Inst.c)), .c (.v (.int .i64 a_2)), .c (.v (.int .i64 v_28)), .c (.ro false 1 s_39.2.1.length (s_39.2.1.map (cI .i64))), .a 2 32 (s_39.2.2.1.l.map thread_cell.c), .a 2 400 (s_39.2.2.2.1.l.map thread_cell.c), .c (.v (.bool s_39.2.2.2.2.1)), .c (.v (.bool s_39.2.2.2.2.2.1)), .c (.v (.int .u64 s_39.2.2.2.2.2.2.1)), .c (.v (.int .u64 s_39.2.2.2.2.2.2.2.1)), .c (.v (.int .u64 s_39.2.2.2.2.2.2.2.2.1)), .c (.v (.int .i64 s_39.2.2.2.2.2.2.2.2.2.1)), .c (.v (.int .i64 s_39.2.2.2.2.2.2.2.2.2.2.1)), .c (.sl 0 4 s_39.2.2.2.2.2.2.2.2.2.2.2.length 0 s_39.2.2.2.2.2.2.2.2.2.2.2.length)], .box [.ref 2 0], .arr true 48 8 s_39.2.2.2.2.2.2.2.2.2.2.2.length (s_39.2.2.2.2.2.2.2.2.2.2.2.map api_Event.c)], []⟩ | Sum.inr (s_40) => ⟨[(8, .ref 1 0)], [.dead, .box [.v (.slice none 0 0), .v (.int .i64 0)], .seg [.c (.ro false 5 a_1.length (a_1.map api_Inst.c)), .c (.v (.int .i64 a_2)), .c (.v (.int .i64 v_28)), .c (.ro false 1 s_40.1.length (s_40.1.map (cI .i64))), .a 2 32 (s_40.2.1.l.map thread_cell.c), .a 2 400 (s_40.2.2.1.l.map thread_cell.c), .c (.v (.bool s_40.2.2.2.1)), .c (.v (.bool s_40.2.2.2.2.1)), .c (.v (.int .u64 s_40.2.2.2.2.2.1)), .c (.v (.int .u64 s_40.2.2.2.2.2.2.1)), .c (.v (.int .u64 s_40.2.2.2.2.2.2.2.1)), .c (.v (.int .i64 s_40.2.2.2.2.2.2.2.2.1)), .c (.v (.int .i64 s_40.2.2.2.2.2.2.2.2.2.1)), .c (.sl 0 4 s_40.2.2.2.2.2.2.2.2.2.2.1.length 0 s_40.2.2.2.2.2.2.2.2.2.2.1.length)], .box [.ref 2 0], .arr true 48 8 s_40.2.2.2.2.2.2.2.2.2.2.1.length (s_40.2.2.2.2.2.2.2.2.2.2.1.map api_Event.c)], []⟩ : ((Int × (List Int) × (Arr thread_cell 32) × (Arr thread_cell 400) × Bool × Bool × Int × Int × Int × Int × Int × (List api_Event)) ⊕ ((List Int) × (Arr thread_cell 32) × (Arr thread_cell 400) × Bool × Bool × Int × Int × Int × Int × Int × (List api_Event) × Int)) → ASt)) (by intro o; rcases o with _ | _ <;> simp) (fun s_35 z H => by
    unfold thread_Do.l2 at H
    obtain ⟨o_41, e_42, H⟩ := bdE H
    have j_43 : Runs Try.prog thread_Do.F.N 4 (sub_ thread_Do.F.c [1, 1, 1, 1, 1, 1, 1, 0, 0, 0, 0, 0, 0]) ⟨[(0, .ro false 5 a_1.length (a_1.map api_Inst.c)), (8, .ref 1 0), (13, .ref 3 0), (14, .v (.int .i64 s_35.2.2.2.2.2.2.2.2.2.2.2.1)), (15, .v (.int .i64 s_35.2.2.2.2.2.2.2.2.2.2.2.2))], [.dead, .box [.v (.slice none 0 0), .v (.int .i64 0)], .seg [.c (.ro false 5 a_1.length (a_1.map api_Inst.c)), .c (.v (.int .i64 a_2)), .c (.v (.int .i64 v_28)), .c (.ro false 1 s_35.1.length (s_35.1.map (cI .i64))), .a 2 32 (s_35.2.1.l.map thread_cell.c), .a 2 400 (s_35.2.2.1.l.map thread_cell.c), .c (.v (.bool s_35.2.2.2.1)), .c (.v (.bool s_35.2.2.2.2.1)), .c (.v (.int .u64 s_35.2.2.2.2.2.1)), .c (.v (.int .u64 s_35.2.2.2.2.2.2.1)), .c (.v (.int .u64 s_35.2.2.2.2.2.2.2.1)), .c (.v (.int .i64 s_35.2.2.2.2.2.2.2.2.1)), .c (.v (.int .i64 s_35.2.2.2.2.2.2.2.2.2.1)), .c (.sl 0 4 s_35.2.2.2.2.2.2.2.2.2.2.1.length 0 s_35.2.2.2.2.2.2.2.2.2.2.1.length)], .box [.ref 2 0], .arr true 48 8 s_35.2.2.2.2.2.2.2.2.2.2.1.length (s_35.2.2.2.2.2.2.2.2.2.2.1.map api_Event.c)], []⟩ ((fun _ => .normal : Bool → Ex) o_41) ((fun o_41 => ⟨[(0, .ro false 5 a_1.length (a_1.map api_Inst.c)), (8, .ref 1 0), (13, .ref 3 0), (14, .v (.int .i64 s_35.2.2.2.2.2.2.2.2.2.2.2.1)), (15, .v (.int .i64 s_35.2.2.2.2.2.2.2.2.2.2.2.2)), (78, .v (.bool o_41))], [.dead, .box [.v (.slice none 0 0), .v (.int .i64 0)], .seg [.c (.ro false 5 a_1.length (a_1.map api_Inst.c)), .c (.v (.int .i64 a_2)), .c (.v (.int .i64 v_28)), .c (.ro false 1 s_35.1.length (s_35.1.map (cI .i64))), .a 2 32 (s_35.2.1.l.map thread_cell.c), .a 2 400 (s_35.2.2.1.l.map thread_cell.c), .c (.v (.bool s_35.2.2.2.1)), .c (.v (.bool s_35.2.2.2.2.1)), .c (.v (.int .u64 s_35.2.2.2.2.2.1)), .c (.v (.int .u64 s_35.2.2.2.2.2.2.1)), .c (.v (.int .u64 s_35.2.2.2.2.2.2.2.1)), .c (.v (.int .i64 s_35.2.2.2.2.2.2.2.2.1)), .c (.v (.int .i64 s_35.2.2.2.2.2.2.2.2.2.1)), .c (.sl 0 4 s_35.2.2.2.2.2.2.2.2.2.2.1.length 0 s_35.2.2.2.2.2.2.2.2.2.2.1.length)], .box [.ref 2 0], .arr true 48 8 s_35.2.2.2.2.2.2.2.2.2.2.1.length (s_35.2.2.2.2.2.2.2.2.2.2.1.map api_Event.c)], []⟩ : Bool → ASt) o_41) := by
     clear H
     have H := e_42
     clear e_42
     rcases ic H with ⟨h_44, H⟩ | ⟨h_44, H⟩
     ·obtain rfl := sj H
      exact fn [br h_44, pT] (by kernel_rfl)
     ·obtain rfl := sj H
      exact fn [br h_44, pF] (by kernel_rfl)
    rcases ie H with ⟨h_45, H⟩ | ⟨h_45, H⟩
    ·obtain rfl := sj H
     exact fn [sg_ 15 j_43, br h_45] (by kernel_rfl)
    ·rcases ic H with ⟨h_46, H⟩ | ⟨h_46, H⟩
     ·obtain rfl := sj H
      exact fn [sg_ 15 j_43, br h_45, br h_46] (by kernel_rfl)
     ·obtain ⟨g_47, H⟩ := gdE H
      let v_48 : api_Inst := gi a_1 s_35.2.2.2.2.2.2.2.2.2.2.2.1
      replace H := ltD H
      obtain ⟨r_49, e_50, H⟩ := bdE H
      rcases r_49 with r_51 | r_52
      ·let v_53 : Int := wr .i64 (s_35.2.2.2.2.2.2.2.2.2.2.2.1 + r_51.2.2.2.2.2.2.2.2.2.2.2)
       replace H := ltD H
       let v_54 : Int := wr .i64 (s_35.2.2.2.2.2.2.2.2.2.2.2.2 + 1)
       replace H := ltD H
       obtain rfl := sj H
       exact fn [sg_ 15 j_43, br h_45, br h_46, ix api_Inst.c g_47, ca [2, 4] (thread_thread_step_2.ev e_50)] (by kernel_rfl)
      ·obtain rfl := sj H
       exact fn [sg_ 15 j_43, br h_45, br h_46, ix api_Inst.c g_47, ca [2, 4] (thread_thread_step_2.ev e_50)] (by kernel_rfl)) e_37
   rcases o_36 with s_39 | s_40
   ·obtain rfl := sj H
    exact thread_Do.F.runD thread_Do.G tb mixed [here 0, frz 0 [3] [], ron 3 none (cI .i64) a_4, sg_ 1 j_8, br h_12, su j_18, pf (by decide : 0 ≤ (16 : Int)), on_ 53 (sgn [.c (.ro false 5 a_1.length (a_1.map api_Inst.c)), .c (.v (.int .i64 a_2)), .c (.v (.int .i64 v_28)), .c (.ro false 1 a_4.length (a_4.map (cI .i64))), .a 2 32 ((Arr.r 32 ((thread_cell.mk 0 0) : thread_cell) : Arr thread_cell 32).l.map thread_cell.c), .a 2 400 ((Arr.r 400 ((thread_cell.mk 0 0) : thread_cell) : Arr thread_cell 400).l.map thread_cell.c), .c (.v (.bool false)), .c (.v (.bool false)), .c (.v (.int .u64 0)), .c (.v (.int .u64 0)), .c (.v (.int .u64 0)), .c (.v (.int .i64 (-1))), .c (.v (.int .i64 0)), .c (.v (.slice none 0 0))]), pf (by decide : 0 ≤ (1 : Int) ∧ (1 : Int) < ((32 : Nat) : Int)), sgs thread_cell.c (Arr.r 32 ((thread_cell.mk 0 0) : thread_cell) : Arr thread_cell 32) 4 0 [.v (.int .i64 v_28)] (thread_cell.mk v_28 v_29.hang) (by decide : 0 ≤ (1 : Int) ∧ (1 : Int) < ((32 : Nat) : Int)) (by kernel_rfl), pf (by decide : 0 ≤ (2 : Int) ∧ (2 : Int) < ((32 : Nat) : Int)), sgs thread_cell.c v_30 4 0 [.v (.int .i64 65536)] (thread_cell.mk 65536 v_31.hang) (by decide : 0 ≤ (2 : Int) ∧ (2 : Int) < ((32 : Nat) : Int)) (by kernel_rfl), su j_38, adB 2 13 (some 48) 8, au] rfl (by kernel_rfl) (by kernel_rfl)
   ·obtain rfl := sj H
    exact thread_Do.F.runD thread_Do.G tb mixed [here 0, frz 0 [3] [], ron 3 none (cI .i64) a_4, sg_ 1 j_8, br h_12, su j_18, pf (by decide : 0 ≤ (16 : Int)), on_ 53 (sgn [.c (.ro false 5 a_1.length (a_1.map api_Inst.c)), .c (.v (.int .i64 a_2)), .c (.v (.int .i64 v_28)), .c (.ro false 1 a_4.length (a_4.map (cI .i64))), .a 2 32 ((Arr.r 32 ((thread_cell.mk 0 0) : thread_cell) : Arr thread_cell 32).l.map thread_cell.c), .a 2 400 ((Arr.r 400 ((thread_cell.mk 0 0) : thread_cell) : Arr thread_cell 400).l.map thread_cell.c), .c (.v (.bool false)), .c (.v (.bool false)), .c (.v (.int .u64 0)), .c (.v (.int .u64 0)), .c (.v (.int .u64 0)), .c (.v (.int .i64 (-1))), .c (.v (.int .i64 0)), .c (.v (.slice none 0 0))]), pf (by decide : 0 ≤ (1 : Int) ∧ (1 : Int) < ((32 : Nat) : Int)), sgs thread_cell.c (Arr.r 32 ((thread_cell.mk 0 0) : thread_cell) : Arr thread_cell 32) 4 0 [.v (.int .i64 v_28)] (thread_cell.mk v_28 v_29.hang) (by decide : 0 ≤ (1 : Int) ∧ (1 : Int) < ((32 : Nat) : Int)) (by kernel_rfl), pf (by decide : 0 ≤ (2 : Int) ∧ (2 : Int) < ((32 : Nat) : Int)), sgs thread_cell.c v_30 4 0 [.v (.int .i64 65536)] (thread_cell.mk 65536 v_31.hang) (by decide : 0 ≤ (2 : Int) ∧ (2 : Int) < ((32 : Nat) : Int)) (by kernel_rfl), su j_38, adB 2 13 (some 48) 8, au] rfl (by kernel_rfl) (by kernel_rfl)
def thread_Do.k2 (a_1 : List api_Inst) (a_2 : Int) (v_28 : Int) (s_35 : (List Int) × (Arr thread_cell 32) × (Arr thread_cell 400) × Bool × Bool × Int × Int × Int × Int × Int × (List api_Event) × Int × Int) : Option (((List Int) × (Arr thread_cell 32) × (Arr thread_cell 400) × Bool × Bool × Int × Int × Int × Int × Int × (List api_Event) × Int × Int) ⊕ ((Int × (List Int) × (Arr thread_cell 32) × (Arr thread_cell 400) × Bool × Bool × Int × Int × Int × Int × Int × (List api_Event)) ⊕ ((List Int) × (Arr thread_cell 32) × (Arr thread_cell 400) × Bool × Bool × Int × Int × Int × Int × Int × (List api_Event) × Int))) :=
 (if s_35.2.2.2.2.2.2.2.2.2.2.2.1 < 0 then (some (true : Bool)) else (some ((decide (s_35.2.2.2.2.2.2.2.2.2.2.2.1 ≥ (a_1.length : Int))) : Bool)) : Option Bool).bind fun o_41 => if o_41 = true then (some (Sum.inr (Sum.inl (6, s_35.1, s_35.2.1, s_35.2.2.1, s_35.2.2.2.1, s_35.2.2.2.2.1, s_35.2.2.2.2.2.1, s_35.2.2.2.2.2.2.1, s_35.2.2.2.2.2.2.2.1, s_35.2.2.2.2.2.2.2.2.1, s_35.2.2.2.2.2.2.2.2.2.1, s_35.2.2.2.2.2.2.2.2.2.2.1)))) else (if s_35.2.2.2.2.2.2.2.2.2.2.2.2 = 8000 then (some (Sum.inr (Sum.inl (5, s_35.1, s_35.2.1, s_35.2.2.1, s_35.2.2.2.1, s_35.2.2.2.2.1, s_35.2.2.2.2.2.1, s_35.2.2.2.2.2.2.1, s_35.2.2.2.2.2.2.2.1, s_35.2.2.2.2.2.2.2.2.1, s_35.2.2.2.2.2.2.2.2.2.1, s_35.2.2.2.2.2.2.2.2.2.2.1)))) else (if 0 ≤ s_35.2.2.2.2.2.2.2.2.2.2.2.1 ∧ s_35.2.2.2.2.2.2.2.2.2.2.2.1 < (a_1.length : Int) then (letK (gi a_1 s_35.2.2.2.2.2.2.2.2.2.2.2.1) fun v_48 => (thread_thread_step_2.m v_48 a_1 a_2 v_28 s_35.1 s_35.2.1 s_35.2.2.1 s_35.2.2.2.1 s_35.2.2.2.2.1 s_35.2.2.2.2.2.1 s_35.2.2.2.2.2.2.1 s_35.2.2.2.2.2.2.2.1 s_35.2.2.2.2.2.2.2.2.1 s_35.2.2.2.2.2.2.2.2.2.1 s_35.2.2.2.2.2.2.2.2.2.2.1).bind fun r_49 => match r_49 with | Sum.inl r_51 => (letK (wr .i64 (s_35.2.2.2.2.2.2.2.2.2.2.2.1 + r_51.2.2.2.2.2.2.2.2.2.2.2)) fun v_53 => letK (wr .i64 (s_35.2.2.2.2.2.2.2.2.2.2.2.2 + 1)) fun v_54 => some (Sum.inl (r_51.1, r_51.2.1, r_51.2.2.1, r_51.2.2.2.1, r_51.2.2.2.2.1, r_51.2.2.2.2.2.1, r_51.2.2.2.2.2.2.1, r_51.2.2.2.2.2.2.2.1, r_51.2.2.2.2.2.2.2.2.1, r_51.2.2.2.2.2.2.2.2.2.1, r_51.2.2.2.2.2.2.2.2.2.2.1, v_53, v_54))) | Sum.inr (r_52) => (some (Sum.inr (Sum.inr ((s_35.1, s_35.2.1, s_35.2.2.1, s_35.2.2.2.1, s_35.2.2.2.2.1, s_35.2.2.2.2.2.1, s_35.2.2.2.2.2.2.1, s_35.2.2.2.2.2.2.2.1, s_35.2.2.2.2.2.2.2.2.1, s_35.2.2.2.2.2.2.2.2.2.1, s_35.2.2.2.2.2.2.2.2.2.2.1, r_52)))))) else none))
theorem thread_Do.k2_le (a_1 : List api_Inst) (a_2 : Int) (v_28 : Int) (s_35 : (List Int) × (Arr thread_cell 32) × (Arr thread_cell 400) × Bool × Bool × Int × Int × Int × Int × Int × (List api_Event) × Int × Int) : OLe (thread_Do.k2 a_1 a_2 v_28 s_35) (thread_Do.l2 a_1 a_2 v_28 s_35) := by
 unfold thread_Do.k2 thread_Do.l2
 repeat' with_reducible first | refine OLe.lt (fun _ => ?_) | refine OLe.lp (fun _ => ?_) | refine OLe.bind ?_ (fun _ => ?_) | refine OLe.ite ?_ ?_ | exact OLe.rfl' | split
 all_goals (exfalso; simp_all)
def thread_Do.k1 (a_1 : List api_Inst) (s_15 : Int) : Option (Int ⊕ (Unit ⊕ Unit)) :=
 if s_15 < (a_1.length : Int) then (if 0 ≤ s_15 ∧ s_15 < (a_1.length : Int) then (letK (gi a_1 s_15) fun v_23 => (isa_Encode.m v_23).bind fun r_24 => if r_24.2 = 0 then (some (Sum.inl (wr .i64 (s_15 + 1)))) else (some (Sum.inr (Sum.inl ())))) else none) else (some (Sum.inr (Sum.inr (()))))
theorem thread_Do.k1_le (a_1 : List api_Inst) (s_15 : Int) : OLe (thread_Do.k1 a_1 s_15) (thread_Do.l1 a_1 s_15) := by
 unfold thread_Do.k1 thread_Do.l1
 repeat' with_reducible first | exact thread_Do.k2_le .. | refine OLe.lt (fun _ => ?_) | refine OLe.lp (fun _ => ?_) | refine OLe.bind ?_ (fun _ => ?_) | refine OLe.ite ?_ ?_ | exact OLe.rfl' | split
def thread_Do.k (a_1 : List api_Inst) (a_2 : Int) (a_3 : Int) (a_4 : List Int) (a_5 : Nat) : Option (Unit ⊕ ((List api_Event) × Int)) :=
 (if a_2 < 0 then (some (true : Bool)) else (if a_2 > 16 then (some (true : Bool)) else (if a_3 < 0 then (some (true : Bool)) else (some ((decide (a_3 ≥ 3)) : Bool)))) : Option Bool).bind fun o_6 => if o_6 = true then (some (Sum.inl ())) else ((lpK (thread_Do.k1 a_1) (0 : Int)).bind fun o_16 => match o_16 with | Sum.inl s_19 => (some (Sum.inl ())) | Sum.inr (s_20) => (letK (wr .i64 (a_3 * 2 ^ (min (16 : Int).toNat 64))) fun v_27 => letK (wr .i64 ((1048576 : Int) + v_27)) fun v_28 => letK ((Arr.r 32 ((thread_cell.mk 0 0) : thread_cell) : Arr thread_cell 32).g 1) fun v_29 => letK ((Arr.r 32 ((thread_cell.mk 0 0) : thread_cell) : Arr thread_cell 32).s 1 (thread_cell.mk v_28 v_29.hang)) fun v_30 => letK (v_30.g 2) fun v_31 => letK (v_30.s 2 (thread_cell.mk 65536 v_31.hang)) fun v_32 => (lpK (thread_Do.k2 a_1 a_2 v_28) ((a_4, v_32, (Arr.r 400 ((thread_cell.mk 0 0) : thread_cell) : Arr thread_cell 400), false, false, 0, 0, 0, (-1), 0, ([] : List api_Event), 0, 0) : (List Int) × (Arr thread_cell 32) × (Arr thread_cell 400) × Bool × Bool × Int × Int × Int × Int × Int × (List api_Event) × Int × Int)).bind fun o_36 => match o_36 with | Sum.inl s_39 => (some (Sum.inr ((s_39.2.2.2.2.2.2.2.2.2.2.2, s_39.1)))) | Sum.inr (s_40) => (some (Sum.inr ((s_40.2.2.2.2.2.2.2.2.2.2.1, s_40.2.2.2.2.2.2.2.2.2.2.2))))))
theorem thread_Do.k_le (a_1 : List api_Inst) (a_2 : Int) (a_3 : Int) (a_4 : List Int) (a_5 : Nat) : OLe (thread_Do.k a_1 a_2 a_3 a_4 a_5) (thread_Do.m a_1 a_2 a_3 a_4 a_5) := by
 unfold thread_Do.k thread_Do.m
 repeat' with_reducible first | exact thread_Do.k2_le .. | exact thread_Do.k1_le .. | refine OLe.lt (fun _ => ?_) | refine OLe.lp (fun _ => ?_) | refine OLe.bind ?_ (fun _ => ?_) | refine OLe.ite ?_ ?_ | exact OLe.rfl' | split
 all_goals (exfalso; simp_all)
noncomputable def thread_Acts_1.F : FI Try.prog 32 := ⟨Try.f32, 33, (Try.f32.body.getD .skip), Try.f32.results.toList, Try.call32, Try.func32, by kernel_rfl, by kernel_rfl, by kernel_rfl⟩
def thread_Acts_1.m (a_1 : Int) (a_2 : List api_Event) : Option (Bool) :=
 if 0 ≤ a_1 ∧ a_1 < (a_2.length : Int) then (letC (gi a_2 a_1) fun v_4 => if v_4.Kind = 2 then (if v_4.Pair ≥ 1 then (if v_4.Pair ≤ a_1 then (letC (wr .i64 (v_4.Pair - 1)) fun v_8 => if 0 ≤ v_8 ∧ v_8 < (a_2.length : Int) then (letC (gi a_2 v_8) fun v_10 => some (decide (v_10.Kind = 1))) else none) else (some false)) else (some false)) else (some false)) else none
noncomputable def thread_Acts_1.o (a_1 : Int) (a_2 : List api_Event) (r : Bool) : Out := .ret (.v (.bool r)) [.box [.ro false 8 a_2.length (a_2.map api_Event.c)]] []
theorem thread_Acts_1.ev {a_1 : Int} {a_2 : List api_Event} {r : Bool} (H : thread_Acts_1.m a_1 a_2 = some r) : Ev Try.prog 32 [.v (.int .i64 a_1), .ref 0 0] [.box [.ro false 8 a_2.length (a_2.map api_Event.c)]] [] (thread_Acts_1.o a_1 a_2 r) := by
 unfold thread_Acts_1.m at H
 obtain ⟨g_3, H⟩ := gdE H
 let v_4 : api_Event := gi a_2 a_1
 replace H := ltD H
 rcases ic H with ⟨h_5, H⟩ | ⟨h_5, H⟩
 ·rcases ic H with ⟨h_6, H⟩ | ⟨h_6, H⟩
  ·rcases ic H with ⟨h_7, H⟩ | ⟨h_7, H⟩
   ·let v_8 : Int := wr .i64 (v_4.Pair - 1)
    replace H := ltD H
    obtain ⟨g_9, H⟩ := gdE H
    let v_10 : api_Event := gi a_2 v_8
    replace H := ltD H
    obtain rfl := sj H
    exact thread_Acts_1.F.run tb mixed [ix api_Event.c g_3, br h_5, pT, br h_6, pT, br h_7, ix api_Event.c g_9, pT] rfl (by kernel_rfl)
   ·obtain rfl := sj H
    exact thread_Acts_1.F.run tb mixed [ix api_Event.c g_3, br h_5, pT, br h_6, pT, br h_7, pF] rfl (by kernel_rfl)
  ·obtain rfl := sj H
   exact thread_Acts_1.F.run tb mixed [ix api_Event.c g_3, br h_5, pT, br h_6, pF, au, pF] rfl (by kernel_rfl)
 ·obtain rfl := sj H
  exact thread_Acts_1.F.run tb mixed [ix api_Event.c g_3, br h_5, pF, au, pF, au, pF] rfl (by kernel_rfl)
noncomputable def thread_Acts.F : FI Try.prog 15 := ⟨Try.f15, 154, (Try.f15.body.getD .skip), Try.f15.results.toList, Try.call15, Try.func15, by kernel_rfl, by kernel_rfl, by kernel_rfl⟩
def thread_Acts.l2 (a_1 : List api_Event) (a_2 : List api_Loc) (o_6 : List (Int × Int)) (s_26 : (List api_Act) × Int) : Option (((List api_Act) × Int) ⊕ (List api_Act)) :=
 if s_26.2 < (a_1.length : Int) then (if 0 ≤ s_26.2 ∧ s_26.2 < (a_1.length : Int) then (letC (gi a_1 s_26.2) fun v_32 => (if v_32.Loc ≥ 0 then (if v_32.Loc < (a_2.length : Int) then (if 0 ≤ v_32.Loc ∧ v_32.Loc < (a_2.length : Int) then (letC (gi a_2 v_32.Loc) fun v_39 => some (v_39.Atomic : Bool)) else none) else (some (false : Bool))) else (some (false : Bool)) : Option Bool).bind fun o_33 => if v_32.Kind = 6 then (if (s_26.1.length + ([(api_Act.mk 6 0 0 v_32.Val)] : List api_Act).length) * 32 ≤ 140737488355328 then (letC (s_26.1 ++ ([(api_Act.mk 6 0 0 v_32.Val)] : List api_Act)) fun v_42 => letC (wr .i64 (s_26.2 + 1)) fun v_43 => some (Sum.inl (v_42, v_43))) else none) else ((thread_Acts_1.m s_26.2 a_1).bind fun r_44 => if r_44 = true then (letC (wr .i64 (v_32.Pair - 1)) fun v_47 => if 0 ≤ v_47 ∧ v_47 < (a_1.length : Int) then (letC (gi a_1 v_47) fun v_49 => if (s_26.1.length + ([(api_Act.mk 5 v_32.Loc v_49.Val v_32.Val)] : List api_Act).length) * 32 ≤ 140737488355328 then (letC (s_26.1 ++ ([(api_Act.mk 5 v_32.Loc v_49.Val v_32.Val)] : List api_Act)) fun v_51 => letC (wr .i64 (s_26.2 + 1)) fun v_52 => some (Sum.inl (v_51, v_52))) else none) else none) else ((if v_32.Kind = 1 then (match aget o_6 s_26.2 with | none => (some (o_33 : Bool)) | some v_57 => (if v_57 = 0 then (some (o_33 : Bool)) else (some (false : Bool)))) else (some (false : Bool)) : Option Bool).bind fun o_53 => if o_53 = true then (if (s_26.1.length + ([(api_Act.mk 3 v_32.Loc v_32.Val 0)] : List api_Act).length) * 32 ≤ 140737488355328 then (letC (s_26.1 ++ ([(api_Act.mk 3 v_32.Loc v_32.Val 0)] : List api_Act)) fun v_63 => letC (wr .i64 (s_26.2 + 1)) fun v_64 => some (Sum.inl (v_63, v_64))) else none) else ((if v_32.Kind = 1 then (match aget o_6 s_26.2 with | none => (some (true : Bool)) | some v_69 => (some ((decide (v_69 = 0)) : Bool))) else (some (false : Bool)) : Option Bool).bind fun o_65 => if o_65 = true then (if (s_26.1.length + ([(api_Act.mk 1 v_32.Loc v_32.Val 0)] : List api_Act).length) * 32 ≤ 140737488355328 then (letC (s_26.1 ++ ([(api_Act.mk 1 v_32.Loc v_32.Val 0)] : List api_Act)) fun v_74 => letC (wr .i64 (s_26.2 + 1)) fun v_75 => some (Sum.inl (v_74, v_75))) else none) else ((if v_32.Kind = 2 then (some (o_33 : Bool)) else (some (false : Bool)) : Option Bool).bind fun o_76 => if o_76 = true then (if (s_26.1.length + ([(api_Act.mk 4 v_32.Loc 0 v_32.Val)] : List api_Act).length) * 32 ≤ 140737488355328 then (letC (s_26.1 ++ ([(api_Act.mk 4 v_32.Loc 0 v_32.Val)] : List api_Act)) fun v_82 => letC (wr .i64 (s_26.2 + 1)) fun v_83 => some (Sum.inl (v_82, v_83))) else none) else (if v_32.Kind = 2 then (if (s_26.1.length + ([(api_Act.mk 2 v_32.Loc 0 v_32.Val)] : List api_Act).length) * 32 ≤ 140737488355328 then (letC (s_26.1 ++ ([(api_Act.mk 2 v_32.Loc 0 v_32.Val)] : List api_Act)) fun v_86 => letC (wr .i64 (s_26.2 + 1)) fun v_87 => some (Sum.inl (v_86, v_87))) else none) else (letC (wr .i64 (s_26.2 + 1)) fun v_88 => some (Sum.inl (s_26.1, v_88))))))))) else none) else (some (Sum.inr s_26.1))
def thread_Acts.l1 (a_1 : List api_Event) (s_5 : (List (Int × Int)) × Int) : Option (((List (Int × Int)) × Int) ⊕ (List (Int × Int))) :=
 if s_5.2 < (a_1.length : Int) then (if 0 ≤ s_5.2 ∧ s_5.2 < (a_1.length : Int) then (letC (gi a_1 s_5.2) fun v_11 => (thread_Acts_1.m s_5.2 a_1).bind fun r_12 => if r_12 = true then (letC (wr .i64 (v_11.Pair - 1)) fun v_15 => match aget s_5.1 v_15 with | none => (letC (aset s_5.1 v_15 1) fun v_19 => letC (wr .i64 (s_5.2 + 1)) fun v_20 => some (Sum.inl (v_19, v_20))) | some v_16 => (letC (aset s_5.1 v_15 (wr .i64 (v_16 + 1))) fun v_21 => letC (wr .i64 (s_5.2 + 1)) fun v_22 => some (Sum.inl (v_21, v_22)))) else (letC (wr .i64 (s_5.2 + 1)) fun v_23 => some (Sum.inl (s_5.1, v_23)))) else none) else (some (Sum.inr s_5.1))
def thread_Acts.m (a_1 : List api_Event) (a_2 : List api_Loc) : Option (List api_Act) :=
 (B.loop (thread_Acts.l1 a_1) ((([] : List (Int × Int)), 0) : (List (Int × Int)) × Int)).bind fun o_6 => (B.loop (thread_Acts.l2 a_1 a_2 o_6) ((([] : List api_Act), 0) : (List api_Act) × Int)).bind fun o_27 => some o_27
noncomputable def thread_Acts.o (a_1 : List api_Event) (a_2 : List api_Loc) (r : List api_Act) : Out := .ret (.sl 0 2 r.length 0 r.length) [.dead, .dead, .arr true 64 4 r.length (r.map api_Act.c)] []
theorem thread_Acts.ev {a_1 : List api_Event} {a_2 : List api_Loc} {r : List api_Act} (H : thread_Acts.m a_1 a_2 = some r) : Ev Try.prog 15 [.ro false 8 a_1.length (a_1.map api_Event.c), .ro false 2 a_2.length (a_2.map api_Loc.c)] [] [] (thread_Acts.o a_1 a_2 r) := by
 unfold thread_Acts.m at H
 obtain ⟨o_6, e_7, H⟩ := bdE H
 have j_8 := Runs.loop (P := Try.prog) (N := thread_Acts.F.N) (m0 := 0) (c := sub_ thread_Acts.F.c [1, 1, 1, 0, 1, 0, 0]) (f := (thread_Acts.l1 a_1)) (St := fun s_5 => ⟨[(1, .ro false 2 a_2.length (a_2.map api_Loc.c)), (2, .ref 0 0), (5, .mp 1), (6, .fn 32 [] [.ref 0 0]), (15, .ro false 8 a_1.length (a_1.map api_Event.c)), (16, .v (.int .i64 (a_1.length : Int))), (17, .v (.int .i64 s_5.2))], [.box [.ro false 8 a_1.length (a_1.map api_Event.c)], .mp .i64 (mE (vI .i64) s_5.1)], []⟩) (xo := (fun _ => (.exit 0) : (List (Int × Int)) → Ex)) (So := (fun o_6 => ⟨[(1, .ro false 2 a_2.length (a_2.map api_Loc.c)), (2, .ref 0 0), (5, .mp 1), (6, .fn 32 [] [.ref 0 0])], [.box [.ro false 8 a_1.length (a_1.map api_Event.c)], .mp .i64 (mE (vI .i64) o_6)], []⟩ : (List (Int × Int)) → ASt)) (by intro o; simp) (fun s_5 z H => by
  unfold thread_Acts.l1 at H
  rcases ic H with ⟨h_9, H⟩ | ⟨h_9, H⟩
  ·obtain ⟨g_10, H⟩ := gdE H
   let v_11 : api_Event := gi a_1 s_5.2
   replace H := ltD H
   obtain ⟨r_12, e_13, H⟩ := bdE H
   rcases ie H with ⟨h_14, H⟩ | ⟨h_14, H⟩
   ·let v_15 : Int := wr .i64 (v_11.Pair - 1)
    replace H := ltD H
    rcases e_17 : aget s_5.1 v_15 with _ | v_16
    ·rw [e_17] at H
     let v_19 : List (Int × Int) := aset s_5.1 v_15 1
     replace H := ltD H
     let v_20 : Int := wr .i64 (s_5.2 + 1)
     replace H := ltD H
     obtain rfl := sj H
     exact fn [br h_9, ix api_Event.c g_10, ca [0] (thread_Acts_1.ev e_13), br h_14, mgN (vI .i64) e_17, ms (vI .i64) s_5.1 v_15 1] (by kernel_rfl)
    ·rw [e_17] at H
     let v_21 : List (Int × Int) := aset s_5.1 v_15 (wr .i64 (v_16 + 1))
     replace H := ltD H
     let v_22 : Int := wr .i64 (s_5.2 + 1)
     replace H := ltD H
     obtain rfl := sj H
     exact fn [br h_9, ix api_Event.c g_10, ca [0] (thread_Acts_1.ev e_13), br h_14, mgS (vI .i64) e_17, ms (vI .i64) s_5.1 v_15 (wr .i64 (v_16 + 1))] (by kernel_rfl)
   ·let v_23 : Int := wr .i64 (s_5.2 + 1)
    replace H := ltD H
    obtain rfl := sj H
    exact fn [br h_9, ix api_Event.c g_10, ca [0] (thread_Acts_1.ev e_13), br h_14] (by kernel_rfl)
  ·obtain rfl := sj H
   exact fn [br h_9] (by kernel_rfl)) e_7
 obtain ⟨o_27, e_28, H⟩ := bdE H
 have j_29 := Runs.loop (P := Try.prog) (N := thread_Acts.F.N) (m0 := 0) (c := sub_ thread_Acts.F.c [1, 1, 1, 1, 1, 0, 1, 0, 0]) (f := (thread_Acts.l2 a_1 a_2 o_6)) (St := fun s_26 => ⟨[(1, .ro false 2 a_2.length (a_2.map api_Loc.c)), (2, .ref 0 0), (5, .mp 1), (6, .fn 32 [] [.ref 0 0]), (9, .sl 0 2 s_26.1.length 0 s_26.1.length), (32, .ro false 8 a_1.length (a_1.map api_Event.c)), (33, .v (.int .i64 (a_1.length : Int))), (34, .v (.int .i64 s_26.2))], [.box [.ro false 8 a_1.length (a_1.map api_Event.c)], .mp .i64 (mE (vI .i64) o_6), .arr true 64 4 s_26.1.length (s_26.1.map api_Act.c)], []⟩) (xo := (fun _ => (.exit 2) : (List api_Act) → Ex)) (So := (fun o_27 => ⟨[(9, .sl 0 2 o_27.length 0 o_27.length)], [.dead, .dead, .arr true 64 4 o_27.length (o_27.map api_Act.c)], []⟩ : (List api_Act) → ASt)) (by intro o; simp) (fun s_26 z H => by
  unfold thread_Acts.l2 at H
  rcases ic H with ⟨h_30, H⟩ | ⟨h_30, H⟩
  ·obtain ⟨g_31, H⟩ := gdE H
   let v_32 : api_Event := gi a_1 s_26.2
   replace H := ltD H
   obtain ⟨o_33, e_34, H⟩ := bdE H
   have j_35 : Runs Try.prog thread_Acts.F.N 0 (sub_ thread_Acts.F.c [1, 1, 1, 1, 1, 0, 1, 0, 0, 1, 1, 0, 0, 1, 0]) ⟨[(1, .ro false 2 a_2.length (a_2.map api_Loc.c)), (2, .ref 0 0), (5, .mp 1), (6, .fn 32 [] [.ref 0 0]), (9, .sl 0 2 s_26.1.length 0 s_26.1.length), (10, .v (.int .i64 s_26.2)), (11, .ref 3 0), (32, .ro false 8 a_1.length (a_1.map api_Event.c)), (33, .v (.int .i64 (a_1.length : Int))), (34, .v (.int .i64 s_26.2))], [.box [.ro false 8 a_1.length (a_1.map api_Event.c)], .mp .i64 (mE (vI .i64) o_6), .arr true 64 4 s_26.1.length (s_26.1.map api_Act.c), .box (api_Event.c v_32)], []⟩ ((fun _ => .normal : Bool → Ex) o_33) ((fun o_33 => ⟨[(1, .ro false 2 a_2.length (a_2.map api_Loc.c)), (2, .ref 0 0), (5, .mp 1), (6, .fn 32 [] [.ref 0 0]), (9, .sl 0 2 s_26.1.length 0 s_26.1.length), (10, .v (.int .i64 s_26.2)), (11, .ref 3 0), (12, .v (.bool o_33)), (32, .ro false 8 a_1.length (a_1.map api_Event.c)), (33, .v (.int .i64 (a_1.length : Int))), (34, .v (.int .i64 s_26.2))], [.box [.ro false 8 a_1.length (a_1.map api_Event.c)], .mp .i64 (mE (vI .i64) o_6), .arr true 64 4 s_26.1.length (s_26.1.map api_Act.c), .box (api_Event.c v_32)], []⟩ : Bool → ASt) o_33) := by
    clear H
    have H := e_34
    clear e_34
    rcases ic H with ⟨h_36, H⟩ | ⟨h_36, H⟩
    ·rcases ic H with ⟨h_37, H⟩ | ⟨h_37, H⟩
     ·obtain ⟨g_38, H⟩ := gdE H
      let v_39 : api_Loc := gi a_2 v_32.Loc
      replace H := ltD H
      obtain rfl := sj H
      exact fn [br h_36, pT, br h_37, ix api_Loc.c g_38, pT] (by kernel_rfl)
     ·obtain rfl := sj H
      exact fn [br h_36, pT, br h_37, pF] (by kernel_rfl)
    ·obtain rfl := sj H
     exact fn [br h_36, pF, au, pF] (by kernel_rfl)
   rcases ic H with ⟨h_40, H⟩ | ⟨h_40, H⟩
   ·obtain ⟨g_41, H⟩ := gdE H
    let v_42 : List api_Act := s_26.1 ++ ([(api_Act.mk 6 0 0 v_32.Val)] : List api_Act)
    replace H := ltD H
    let v_43 : Int := wr .i64 (s_26.2 + 1)
    replace H := ltD H
    obtain rfl := sj H
    exact fn [br h_30, ix api_Event.c g_31, sg_ 13 j_35, br h_40, ap api_Act.c 32 false s_26.1 ([(api_Act.mk 6 0 0 v_32.Val)] : List api_Act) g_41 (fun h => by cases h)] (by kernel_rfl)
   ·obtain ⟨r_44, e_45, H⟩ := bdE H
    rcases ie H with ⟨h_46, H⟩ | ⟨h_46, H⟩
    ·let v_47 : Int := wr .i64 (v_32.Pair - 1)
     replace H := ltD H
     obtain ⟨g_48, H⟩ := gdE H
     let v_49 : api_Event := gi a_1 v_47
     replace H := ltD H
     obtain ⟨g_50, H⟩ := gdE H
     let v_51 : List api_Act := s_26.1 ++ ([(api_Act.mk 5 v_32.Loc v_49.Val v_32.Val)] : List api_Act)
     replace H := ltD H
     let v_52 : Int := wr .i64 (s_26.2 + 1)
     replace H := ltD H
     obtain rfl := sj H
     exact fn [br h_30, ix api_Event.c g_31, sg_ 13 j_35, br h_40, ca [0] (thread_Acts_1.ev e_45), br h_46, ix api_Event.c g_48, ap api_Act.c 32 false s_26.1 ([(api_Act.mk 5 v_32.Loc v_49.Val v_32.Val)] : List api_Act) g_50 (fun h => by cases h)] (by kernel_rfl)
    ·obtain ⟨o_53, e_54, H⟩ := bdE H
     have j_55 : Runs Try.prog thread_Acts.F.N 0 (sub_ thread_Acts.F.c [1, 1, 1, 1, 1, 0, 1, 0, 0, 1, 1, 0, 0, 1, 1, 0, 1, 1, 1, 1, 0]) ⟨[(1, .ro false 2 a_2.length (a_2.map api_Loc.c)), (2, .ref 0 0), (5, .mp 1), (6, .fn 32 [] [.ref 0 0]), (9, .sl 0 2 s_26.1.length 0 s_26.1.length), (10, .v (.int .i64 s_26.2)), (11, .ref 3 0), (12, .v (.bool o_33)), (32, .ro false 8 a_1.length (a_1.map api_Event.c)), (33, .v (.int .i64 (a_1.length : Int))), (34, .v (.int .i64 s_26.2))], [.box [.ro false 8 a_1.length (a_1.map api_Event.c)], .mp .i64 (mE (vI .i64) o_6), .arr true 64 4 s_26.1.length (s_26.1.map api_Act.c), .box (api_Event.c v_32)], []⟩ ((fun _ => .normal : Bool → Ex) o_53) ((fun o_53 => ⟨[(1, .ro false 2 a_2.length (a_2.map api_Loc.c)), (2, .ref 0 0), (5, .mp 1), (6, .fn 32 [] [.ref 0 0]), (9, .sl 0 2 s_26.1.length 0 s_26.1.length), (10, .v (.int .i64 s_26.2)), (11, .ref 3 0), (12, .v (.bool o_33)), (32, .ro false 8 a_1.length (a_1.map api_Event.c)), (33, .v (.int .i64 (a_1.length : Int))), (34, .v (.int .i64 s_26.2)), (86, .v (.bool o_53))], [.box [.ro false 8 a_1.length (a_1.map api_Event.c)], .mp .i64 (mE (vI .i64) o_6), .arr true 64 4 s_26.1.length (s_26.1.map api_Act.c), .box (api_Event.c v_32)], []⟩ : Bool → ASt) o_53) := by
      clear H
      have H := e_54
      clear e_54
      rcases ic H with ⟨h_56, H⟩ | ⟨h_56, H⟩
      ·rcases e_58 : aget o_6 s_26.2 with _ | v_57
       ·rw [e_58] at H
        obtain rfl := sj H
        exact fn [br h_56, mgN (vI .i64) e_58, pT, au, pT] (by kernel_rfl)
       ·rw [e_58] at H
        rcases ic H with ⟨h_60, H⟩ | ⟨h_60, H⟩
        ·obtain rfl := sj H
         exact fn [br h_56, mgS (vI .i64) e_58, pT, br h_60, pT] (by kernel_rfl)
        ·obtain rfl := sj H
         exact fn [br h_56, mgS (vI .i64) e_58, pT, br h_60, pF] (by kernel_rfl)
      ·obtain rfl := sj H
       exact fn [br h_56, pF, au, pF] (by kernel_rfl)
     rcases ie H with ⟨h_61, H⟩ | ⟨h_61, H⟩
     ·obtain ⟨g_62, H⟩ := gdE H
      let v_63 : List api_Act := s_26.1 ++ ([(api_Act.mk 3 v_32.Loc v_32.Val 0)] : List api_Act)
      replace H := ltD H
      let v_64 : Int := wr .i64 (s_26.2 + 1)
      replace H := ltD H
      obtain rfl := sj H
      exact fn [br h_30, ix api_Event.c g_31, sg_ 13 j_35, br h_40, ca [0] (thread_Acts_1.ev e_45), br h_46, sg_ 18 j_55, br h_61, ap api_Act.c 32 false s_26.1 ([(api_Act.mk 3 v_32.Loc v_32.Val 0)] : List api_Act) g_62 (fun h => by cases h)] (by kernel_rfl)
     ·obtain ⟨o_65, e_66, H⟩ := bdE H
      have j_67 : Runs Try.prog thread_Acts.F.N 0 (sub_ thread_Acts.F.c [1, 1, 1, 1, 1, 0, 1, 0, 0, 1, 1, 0, 0, 1, 1, 0, 1, 1, 1, 1, 1, 1, 0]) ⟨[(1, .ro false 2 a_2.length (a_2.map api_Loc.c)), (2, .ref 0 0), (5, .mp 1), (6, .fn 32 [] [.ref 0 0]), (9, .sl 0 2 s_26.1.length 0 s_26.1.length), (10, .v (.int .i64 s_26.2)), (11, .ref 3 0), (12, .v (.bool o_33)), (32, .ro false 8 a_1.length (a_1.map api_Event.c)), (33, .v (.int .i64 (a_1.length : Int))), (34, .v (.int .i64 s_26.2))], [.box [.ro false 8 a_1.length (a_1.map api_Event.c)], .mp .i64 (mE (vI .i64) o_6), .arr true 64 4 s_26.1.length (s_26.1.map api_Act.c), .box (api_Event.c v_32)], []⟩ ((fun _ => .normal : Bool → Ex) o_65) ((fun o_65 => ⟨[(1, .ro false 2 a_2.length (a_2.map api_Loc.c)), (2, .ref 0 0), (5, .mp 1), (6, .fn 32 [] [.ref 0 0]), (9, .sl 0 2 s_26.1.length 0 s_26.1.length), (11, .ref 3 0), (12, .v (.bool o_33)), (32, .ro false 8 a_1.length (a_1.map api_Event.c)), (33, .v (.int .i64 (a_1.length : Int))), (34, .v (.int .i64 s_26.2)), (107, .v (.bool o_65))], [.box [.ro false 8 a_1.length (a_1.map api_Event.c)], .mp .i64 (mE (vI .i64) o_6), .arr true 64 4 s_26.1.length (s_26.1.map api_Act.c), .box (api_Event.c v_32)], []⟩ : Bool → ASt) o_65) := by
       clear H
       have H := e_66
       clear e_66
       rcases ic H with ⟨h_68, H⟩ | ⟨h_68, H⟩
       ·rcases e_70 : aget o_6 s_26.2 with _ | v_69
        ·rw [e_70] at H
         obtain rfl := sj H
         exact fn [br h_68, mgN (vI .i64) e_70, pT] (by kernel_rfl)
        ·rw [e_70] at H
         obtain rfl := sj H
         exact fn [br h_68, mgS (vI .i64) e_70, pT] (by kernel_rfl)
       ·obtain rfl := sj H
        exact fn [br h_68, pF] (by kernel_rfl)
      rcases ie H with ⟨h_72, H⟩ | ⟨h_72, H⟩
      ·obtain ⟨g_73, H⟩ := gdE H
       let v_74 : List api_Act := s_26.1 ++ ([(api_Act.mk 1 v_32.Loc v_32.Val 0)] : List api_Act)
       replace H := ltD H
       let v_75 : Int := wr .i64 (s_26.2 + 1)
       replace H := ltD H
       obtain rfl := sj H
       exact fn [br h_30, ix api_Event.c g_31, sg_ 13 j_35, br h_40, ca [0] (thread_Acts_1.ev e_45), br h_46, sg_ 18 j_55, br h_61, sg_ 20 j_67, br h_72, ap api_Act.c 32 false s_26.1 ([(api_Act.mk 1 v_32.Loc v_32.Val 0)] : List api_Act) g_73 (fun h => by cases h)] (by kernel_rfl)
      ·obtain ⟨o_76, e_77, H⟩ := bdE H
       have j_78 : Runs Try.prog thread_Acts.F.N 0 (sub_ thread_Acts.F.c [1, 1, 1, 1, 1, 0, 1, 0, 0, 1, 1, 0, 0, 1, 1, 0, 1, 1, 1, 1, 1, 1, 1, 1, 0]) ⟨[(1, .ro false 2 a_2.length (a_2.map api_Loc.c)), (2, .ref 0 0), (5, .mp 1), (6, .fn 32 [] [.ref 0 0]), (9, .sl 0 2 s_26.1.length 0 s_26.1.length), (11, .ref 3 0), (12, .v (.bool o_33)), (32, .ro false 8 a_1.length (a_1.map api_Event.c)), (33, .v (.int .i64 (a_1.length : Int))), (34, .v (.int .i64 s_26.2))], [.box [.ro false 8 a_1.length (a_1.map api_Event.c)], .mp .i64 (mE (vI .i64) o_6), .arr true 64 4 s_26.1.length (s_26.1.map api_Act.c), .box (api_Event.c v_32)], []⟩ ((fun _ => .normal : Bool → Ex) o_76) ((fun o_76 => ⟨[(1, .ro false 2 a_2.length (a_2.map api_Loc.c)), (2, .ref 0 0), (5, .mp 1), (6, .fn 32 [] [.ref 0 0]), (9, .sl 0 2 s_26.1.length 0 s_26.1.length), (11, .ref 3 0), (32, .ro false 8 a_1.length (a_1.map api_Event.c)), (33, .v (.int .i64 (a_1.length : Int))), (34, .v (.int .i64 s_26.2)), (125, .v (.bool o_76))], [.box [.ro false 8 a_1.length (a_1.map api_Event.c)], .mp .i64 (mE (vI .i64) o_6), .arr true 64 4 s_26.1.length (s_26.1.map api_Act.c), .box (api_Event.c v_32)], []⟩ : Bool → ASt) o_76) := by
        clear H
        have H := e_77
        clear e_77
        rcases ic H with ⟨h_79, H⟩ | ⟨h_79, H⟩
        ·obtain rfl := sj H
         exact fn [br h_79, pT] (by kernel_rfl)
        ·obtain rfl := sj H
         exact fn [br h_79, pF] (by kernel_rfl)
       rcases ie H with ⟨h_80, H⟩ | ⟨h_80, H⟩
       ·obtain ⟨g_81, H⟩ := gdE H
        let v_82 : List api_Act := s_26.1 ++ ([(api_Act.mk 4 v_32.Loc 0 v_32.Val)] : List api_Act)
        replace H := ltD H
        let v_83 : Int := wr .i64 (s_26.2 + 1)
        replace H := ltD H
        obtain rfl := sj H
        exact fn [br h_30, ix api_Event.c g_31, sg_ 13 j_35, br h_40, ca [0] (thread_Acts_1.ev e_45), br h_46, sg_ 18 j_55, br h_61, sg_ 20 j_67, br h_72, sg_ 22 j_78, br h_80, ap api_Act.c 32 false s_26.1 ([(api_Act.mk 4 v_32.Loc 0 v_32.Val)] : List api_Act) g_81 (fun h => by cases h)] (by kernel_rfl)
       ·rcases ic H with ⟨h_84, H⟩ | ⟨h_84, H⟩
        ·obtain ⟨g_85, H⟩ := gdE H
         let v_86 : List api_Act := s_26.1 ++ ([(api_Act.mk 2 v_32.Loc 0 v_32.Val)] : List api_Act)
         replace H := ltD H
         let v_87 : Int := wr .i64 (s_26.2 + 1)
         replace H := ltD H
         obtain rfl := sj H
         exact fn [br h_30, ix api_Event.c g_31, sg_ 13 j_35, br h_40, ca [0] (thread_Acts_1.ev e_45), br h_46, sg_ 18 j_55, br h_61, sg_ 20 j_67, br h_72, sg_ 22 j_78, br h_80, br h_84, ap api_Act.c 32 false s_26.1 ([(api_Act.mk 2 v_32.Loc 0 v_32.Val)] : List api_Act) g_85 (fun h => by cases h)] (by kernel_rfl)
        ·let v_88 : Int := wr .i64 (s_26.2 + 1)
         replace H := ltD H
         obtain rfl := sj H
         exact fn [br h_30, ix api_Event.c g_31, sg_ 13 j_35, br h_40, ca [0] (thread_Acts_1.ev e_45), br h_46, sg_ 18 j_55, br h_61, sg_ 20 j_67, br h_72, sg_ 22 j_78, br h_80, br h_84] (by kernel_rfl)
  ·obtain rfl := sj H
   exact fn [br h_30] (by kernel_rfl)) e_28
 obtain rfl := sj H
 exact thread_Acts.F.run tb mixed [su j_8, su j_29, adL 9 (some 64) 4] rfl (by kernel_rfl)
def thread_Acts.k2 (a_1 : List api_Event) (a_2 : List api_Loc) (o_6 : List (Int × Int)) (s_26 : (List api_Act) × Int) : Option (((List api_Act) × Int) ⊕ (List api_Act)) :=
 if s_26.2 < (a_1.length : Int) then (if 0 ≤ s_26.2 ∧ s_26.2 < (a_1.length : Int) then (letK (gi a_1 s_26.2) fun v_32 => (if v_32.Loc ≥ 0 then (if v_32.Loc < (a_2.length : Int) then (if 0 ≤ v_32.Loc ∧ v_32.Loc < (a_2.length : Int) then (letK (gi a_2 v_32.Loc) fun v_39 => some (v_39.Atomic : Bool)) else none) else (some (false : Bool))) else (some (false : Bool)) : Option Bool).bind fun o_33 => if v_32.Kind = 6 then (if (s_26.1.length + ([(api_Act.mk 6 0 0 v_32.Val)] : List api_Act).length) * 32 ≤ 140737488355328 then (letK (s_26.1 ++ ([(api_Act.mk 6 0 0 v_32.Val)] : List api_Act)) fun v_42 => letK (wr .i64 (s_26.2 + 1)) fun v_43 => some (Sum.inl (v_42, v_43))) else none) else ((thread_Acts_1.m s_26.2 a_1).bind fun r_44 => if r_44 = true then (letK (wr .i64 (v_32.Pair - 1)) fun v_47 => if 0 ≤ v_47 ∧ v_47 < (a_1.length : Int) then (letK (gi a_1 v_47) fun v_49 => if (s_26.1.length + ([(api_Act.mk 5 v_32.Loc v_49.Val v_32.Val)] : List api_Act).length) * 32 ≤ 140737488355328 then (letK (s_26.1 ++ ([(api_Act.mk 5 v_32.Loc v_49.Val v_32.Val)] : List api_Act)) fun v_51 => letK (wr .i64 (s_26.2 + 1)) fun v_52 => some (Sum.inl (v_51, v_52))) else none) else none) else ((if v_32.Kind = 1 then (match aget o_6 s_26.2 with | none => (some (o_33 : Bool)) | some v_57 => (if v_57 = 0 then (some (o_33 : Bool)) else (some (false : Bool)))) else (some (false : Bool)) : Option Bool).bind fun o_53 => if o_53 = true then (if (s_26.1.length + ([(api_Act.mk 3 v_32.Loc v_32.Val 0)] : List api_Act).length) * 32 ≤ 140737488355328 then (letK (s_26.1 ++ ([(api_Act.mk 3 v_32.Loc v_32.Val 0)] : List api_Act)) fun v_63 => letK (wr .i64 (s_26.2 + 1)) fun v_64 => some (Sum.inl (v_63, v_64))) else none) else ((if v_32.Kind = 1 then (match aget o_6 s_26.2 with | none => (some (true : Bool)) | some v_69 => (some ((decide (v_69 = 0)) : Bool))) else (some (false : Bool)) : Option Bool).bind fun o_65 => if o_65 = true then (if (s_26.1.length + ([(api_Act.mk 1 v_32.Loc v_32.Val 0)] : List api_Act).length) * 32 ≤ 140737488355328 then (letK (s_26.1 ++ ([(api_Act.mk 1 v_32.Loc v_32.Val 0)] : List api_Act)) fun v_74 => letK (wr .i64 (s_26.2 + 1)) fun v_75 => some (Sum.inl (v_74, v_75))) else none) else ((if v_32.Kind = 2 then (some (o_33 : Bool)) else (some (false : Bool)) : Option Bool).bind fun o_76 => if o_76 = true then (if (s_26.1.length + ([(api_Act.mk 4 v_32.Loc 0 v_32.Val)] : List api_Act).length) * 32 ≤ 140737488355328 then (letK (s_26.1 ++ ([(api_Act.mk 4 v_32.Loc 0 v_32.Val)] : List api_Act)) fun v_82 => letK (wr .i64 (s_26.2 + 1)) fun v_83 => some (Sum.inl (v_82, v_83))) else none) else (if v_32.Kind = 2 then (if (s_26.1.length + ([(api_Act.mk 2 v_32.Loc 0 v_32.Val)] : List api_Act).length) * 32 ≤ 140737488355328 then (letK (s_26.1 ++ ([(api_Act.mk 2 v_32.Loc 0 v_32.Val)] : List api_Act)) fun v_86 => letK (wr .i64 (s_26.2 + 1)) fun v_87 => some (Sum.inl (v_86, v_87))) else none) else (letK (wr .i64 (s_26.2 + 1)) fun v_88 => some (Sum.inl (s_26.1, v_88))))))))) else none) else (some (Sum.inr s_26.1))
theorem thread_Acts.k2_le (a_1 : List api_Event) (a_2 : List api_Loc) (o_6 : List (Int × Int)) (s_26 : (List api_Act) × Int) : OLe (thread_Acts.k2 a_1 a_2 o_6 s_26) (thread_Acts.l2 a_1 a_2 o_6 s_26) := by
 unfold thread_Acts.k2 thread_Acts.l2
 repeat' with_reducible first | refine OLe.lt (fun _ => ?_) | refine OLe.lp (fun _ => ?_) | refine OLe.bind ?_ (fun _ => ?_) | refine OLe.ite ?_ ?_ | exact OLe.rfl' | split
 all_goals try simp_all only [Option.some.injEq, reduceCtorEq]
 all_goals try subst_vars
 repeat' with_reducible first | refine OLe.lt (fun _ => ?_) | refine OLe.lp (fun _ => ?_) | refine OLe.bind ?_ (fun _ => ?_) | refine OLe.ite ?_ ?_ | exact OLe.rfl' | split
 all_goals (exfalso; simp_all)
def thread_Acts.k1 (a_1 : List api_Event) (s_5 : (List (Int × Int)) × Int) : Option (((List (Int × Int)) × Int) ⊕ (List (Int × Int))) :=
 if s_5.2 < (a_1.length : Int) then (if 0 ≤ s_5.2 ∧ s_5.2 < (a_1.length : Int) then (letK (gi a_1 s_5.2) fun v_11 => (thread_Acts_1.m s_5.2 a_1).bind fun r_12 => if r_12 = true then (letK (wr .i64 (v_11.Pair - 1)) fun v_15 => match aget s_5.1 v_15 with | none => (letK (aset s_5.1 v_15 1) fun v_19 => letK (wr .i64 (s_5.2 + 1)) fun v_20 => some (Sum.inl (v_19, v_20))) | some v_16 => (letK (aset s_5.1 v_15 (wr .i64 (v_16 + 1))) fun v_21 => letK (wr .i64 (s_5.2 + 1)) fun v_22 => some (Sum.inl (v_21, v_22)))) else (letK (wr .i64 (s_5.2 + 1)) fun v_23 => some (Sum.inl (s_5.1, v_23)))) else none) else (some (Sum.inr s_5.1))
theorem thread_Acts.k1_le (a_1 : List api_Event) (s_5 : (List (Int × Int)) × Int) : OLe (thread_Acts.k1 a_1 s_5) (thread_Acts.l1 a_1 s_5) := by
 unfold thread_Acts.k1 thread_Acts.l1
 repeat' with_reducible first | exact thread_Acts.k2_le .. | refine OLe.lt (fun _ => ?_) | refine OLe.lp (fun _ => ?_) | refine OLe.bind ?_ (fun _ => ?_) | refine OLe.ite ?_ ?_ | exact OLe.rfl' | split
 all_goals try simp_all only [Option.some.injEq, reduceCtorEq]
 all_goals try subst_vars
 repeat' with_reducible first | exact thread_Acts.k2_le .. | refine OLe.lt (fun _ => ?_) | refine OLe.lp (fun _ => ?_) | refine OLe.bind ?_ (fun _ => ?_) | refine OLe.ite ?_ ?_ | exact OLe.rfl' | split
 all_goals (exfalso; simp_all)
def thread_Acts.k (a_1 : List api_Event) (a_2 : List api_Loc) : Option (List api_Act) :=
 (lpK (thread_Acts.k1 a_1) ((([] : List (Int × Int)), 0) : (List (Int × Int)) × Int)).bind fun o_6 => (lpK (thread_Acts.k2 a_1 a_2 o_6) ((([] : List api_Act), 0) : (List api_Act) × Int)).bind fun o_27 => some o_27
theorem thread_Acts.k_le (a_1 : List api_Event) (a_2 : List api_Loc) : OLe (thread_Acts.k a_1 a_2) (thread_Acts.m a_1 a_2) := by
 unfold thread_Acts.k thread_Acts.m
 repeat' with_reducible first | exact thread_Acts.k2_le .. | exact thread_Acts.k1_le .. | refine OLe.lt (fun _ => ?_) | refine OLe.lp (fun _ => ?_) | refine OLe.bind ?_ (fun _ => ?_) | refine OLe.ite ?_ ?_ | exact OLe.rfl' | split
noncomputable def selvageref08_Same.F : FI Try.prog 19 := ⟨Try.f19, 26, (Try.f19.body.getD .skip), Try.f19.results.toList, Try.call19, Try.func19, by kernel_rfl, by kernel_rfl, by kernel_rfl⟩
def selvageref08_Same.l1 (a_1 : List api_Act) (a_2 : List api_Act) (s_7 : Int) : Option (Int ⊕ (Unit ⊕ Unit)) :=
 if s_7 < (a_1.length : Int) then (if 0 ≤ s_7 ∧ s_7 < (a_1.length : Int) then (letC (gi a_1 s_7) fun v_15 => if 0 ≤ s_7 ∧ s_7 < (a_2.length : Int) then (letC (gi a_2 s_7) fun v_17 => if ((v_15.Kind == v_17.Kind) && ((v_15.Loc == v_17.Loc) && ((v_15.Old == v_17.Old) && ((v_15.New == v_17.New) && true)))) = true then (some (Sum.inl (wr .i64 (s_7 + 1)))) else (some (Sum.inr (Sum.inl ())))) else none) else none) else (some (Sum.inr (Sum.inr (()))))
def selvageref08_Same.m (a_1 : List api_Act) (a_2 : List api_Act) (a_3 : Nat) : Option (Bool) :=
 if (a_1.length : Int) = (a_2.length : Int) then ((B.loop (selvageref08_Same.l1 a_1 a_2) (0 : Int)).bind fun o_8 => match o_8 with | Sum.inl s_11 => (some false) | Sum.inr (s_12) => (some true)) else (some false)
noncomputable def selvageref08_Same.o (a_1 : List api_Act) (a_2 : List api_Act) (a_3 : Nat) (r : Bool) : Out := .ret (.v (.bool r)) [.dead, .dead] []
theorem selvageref08_Same.ev {a_1 : List api_Act} {a_2 : List api_Act} {a_3 : Nat} {r : Bool} (H : selvageref08_Same.m a_1 a_2 a_3 = some r) : Ev Try.prog 19 [.sl 0 0 a_1.length 0 a_1.length, .sl 0 1 a_3 0 a_3] [.arr true 64 4 a_1.length (a_1.map api_Act.c), .arr false 64 4 a_3 (a_2.map api_Act.c)] [] (selvageref08_Same.o a_1 a_2 a_3 r) := by
 unfold selvageref08_Same.m at H
 rcases ic H with ⟨h_4, H⟩ | ⟨h_4, H⟩
 ·obtain ⟨o_8, e_9, H⟩ := bdE H
  have j_10 := Runs.loop (P := Try.prog) (N := selvageref08_Same.F.N) (m0 := 2) (c := sub_ selvageref08_Same.F.c [1, 1, 0, 1, 0, 0]) (f := (selvageref08_Same.l1 a_1 a_2)) (St := fun s_7 => ⟨[(0, .ro false 4 a_1.length (a_1.map api_Act.c)), (1, .ro false 4 a_2.length (a_2.map api_Act.c)), (5, .v (.int .i64 s_7))], [.dead, .dead], []⟩) (xo := (fun o => match o with | Sum.inl _ => .ret | Sum.inr (_) => (.exit 0) : (Unit ⊕ Unit) → Ex)) (So := (fun o => match o with | Sum.inl s_11 => ⟨[(4, .v (.bool false))], [.dead, .dead], []⟩ | Sum.inr (s_12) => ⟨[], [.dead, .dead], []⟩ : (Unit ⊕ Unit) → ASt)) (by intro o; rcases o with _ | _ <;> simp) (fun s_7 z H => by
   unfold selvageref08_Same.l1 at H
   rcases ic H with ⟨h_13, H⟩ | ⟨h_13, H⟩
   ·obtain ⟨g_14, H⟩ := gdE H
    let v_15 : api_Act := gi a_1 s_7
    replace H := ltD H
    obtain ⟨g_16, H⟩ := gdE H
    let v_17 : api_Act := gi a_2 s_7
    replace H := ltD H
    rcases ie H with ⟨h_18, H⟩ | ⟨h_18, H⟩
    ·obtain rfl := sj H
     exact fn [br h_13, ix api_Act.c g_14, ix api_Act.c g_16, eqs (P := Try.prog) (xt := 64) ⟨by kernel_rfl, by kernel_rfl⟩, bn h_18] (by kernel_rfl)
    ·obtain rfl := sj H
     exact fn [br h_13, ix api_Act.c g_14, ix api_Act.c g_16, eqs (P := Try.prog) (xt := 64) ⟨by kernel_rfl, by kernel_rfl⟩, bn h_18] (by kernel_rfl)
   ·obtain rfl := sj H
    exact fn [br h_13] (by kernel_rfl)) e_9
  rcases o_8 with s_11 | s_12
  ·obtain rfl := sj H
   exact selvageref08_Same.F.run tb mixed [here 0, frz 0 [0] [], frz 1 [1] [], ron 1 none api_Act.c a_2, bn h_4, su j_10] rfl (by kernel_rfl)
  ·obtain rfl := sj H
   exact selvageref08_Same.F.run tb mixed [here 0, frz 0 [0] [], frz 1 [1] [], ron 1 none api_Act.c a_2, bn h_4, su j_10] rfl (by kernel_rfl)
 ·obtain rfl := sj H
  exact selvageref08_Same.F.run tb mixed [here 0, frz 0 [0] [], frz 1 [1] [], ron 1 none api_Act.c a_2, bn h_4] rfl (by kernel_rfl)
def selvageref08_Same.k1 (a_1 : List api_Act) (a_2 : List api_Act) (s_7 : Int) : Option (Int ⊕ (Unit ⊕ Unit)) :=
 if s_7 < (a_1.length : Int) then (if 0 ≤ s_7 ∧ s_7 < (a_1.length : Int) then (letK (gi a_1 s_7) fun v_15 => if 0 ≤ s_7 ∧ s_7 < (a_2.length : Int) then (letK (gi a_2 s_7) fun v_17 => if ((v_15.Kind == v_17.Kind) && ((v_15.Loc == v_17.Loc) && ((v_15.Old == v_17.Old) && ((v_15.New == v_17.New) && true)))) = true then (some (Sum.inl (wr .i64 (s_7 + 1)))) else (some (Sum.inr (Sum.inl ())))) else none) else none) else (some (Sum.inr (Sum.inr (()))))
theorem selvageref08_Same.k1_le (a_1 : List api_Act) (a_2 : List api_Act) (s_7 : Int) : OLe (selvageref08_Same.k1 a_1 a_2 s_7) (selvageref08_Same.l1 a_1 a_2 s_7) := by
 unfold selvageref08_Same.k1 selvageref08_Same.l1
 repeat' with_reducible first | refine OLe.lt (fun _ => ?_) | refine OLe.lp (fun _ => ?_) | refine OLe.bind ?_ (fun _ => ?_) | refine OLe.ite ?_ ?_ | exact OLe.rfl' | split
def selvageref08_Same.k (a_1 : List api_Act) (a_2 : List api_Act) (a_3 : Nat) : Option (Bool) :=
 if (a_1.length : Int) = (a_2.length : Int) then ((lpK (selvageref08_Same.k1 a_1 a_2) (0 : Int)).bind fun o_8 => match o_8 with | Sum.inl s_11 => (some false) | Sum.inr (s_12) => (some true)) else (some false)
theorem selvageref08_Same.k_le (a_1 : List api_Act) (a_2 : List api_Act) (a_3 : Nat) : OLe (selvageref08_Same.k a_1 a_2 a_3) (selvageref08_Same.m a_1 a_2 a_3) := by
 unfold selvageref08_Same.k selvageref08_Same.m
 repeat' with_reducible first | exact selvageref08_Same.k1_le .. | refine OLe.lt (fun _ => ?_) | refine OLe.lp (fun _ => ?_) | refine OLe.bind ?_ (fun _ => ?_) | refine OLe.ite ?_ ?_ | exact OLe.rfl' | split
 all_goals (exfalso; simp_all)
noncomputable def selvagelaw17_awake.F : FI Try.prog 7 := ⟨Try.f7, 35, (Try.f7.body.getD .skip), Try.f7.results.toList, Try.call7, Try.func7, by kernel_rfl, by kernel_rfl, by kernel_rfl⟩
def selvagelaw17_awake.m : Option (Bool) :=
 if 0 ≤ (1 : Int) ∧ (1 : Int) ≤ 1 ∧ (1 : Int) * (16 : Nat) ≤ 140737488355328 then (letC (List.replicate (1 : Int).toNat ((api_Loc.mk false 0) : api_Loc)) fun v_2 => (emit_Emit.m v_2 3 ([(api_Ins.mk 6 0 0 0 0 0 0 0), (api_Ins.mk 15 0 0 0 0 0 0 0), (api_Ins.mk 18 0 0 0 0 0 0 0)] : List api_Ins) 3).bind fun r_3 => match r_3 with | Sum.inl r_5 => ((thread_Do.m r_5 1 0 ([7] : List Int) 1).bind fun r_8 => match r_8 with | Sum.inl r_10 => (some false) | Sum.inr (r_11) => (if r_11.2 = 1 then ((thread_Acts.m r_11.1 v_2).bind fun r_13 => (selvageref08_Same.m r_13 ([(api_Act.mk 1 0 7 0), (api_Act.mk 6 0 0 7)] : List api_Act) 2).bind fun r_15 => some r_15) else (some false))) | Sum.inr (Sum.inl r_6) => ((thread_Do.m ([] : List api_Inst) 1 0 ([7] : List Int) 1).bind fun r_17 => match r_17 with | Sum.inl r_19 => (if r_6 = 0 then (some false) else (some false)) | Sum.inr (r_20) => (if r_6 = 0 then (if r_20.2 = 1 then ((thread_Acts.m r_20.1 v_2).bind fun r_24 => (selvageref08_Same.m r_24 ([(api_Act.mk 1 0 7 0), (api_Act.mk 6 0 0 7)] : List api_Act) 2).bind fun r_26 => some r_26) else (some false)) else (some false))) | Sum.inr (Sum.inr (r_7)) => ((thread_Do.m r_7.1 1 0 ([7] : List Int) 1).bind fun r_28 => match r_28 with | Sum.inl r_30 => (some false) | Sum.inr (r_31) => (if r_31.2 = 1 then ((thread_Acts.m r_31.1 v_2).bind fun r_33 => (selvageref08_Same.m r_33 ([(api_Act.mk 1 0 7 0), (api_Act.mk 6 0 0 7)] : List api_Act) 2).bind fun r_35 => some r_35) else (some false)))) else none
noncomputable def selvagelaw17_awake.o (r : Bool) : Out := .ret (.v (.bool r)) [] []
theorem selvagelaw17_awake.ev {r : Bool} (H : selvagelaw17_awake.m = some r) : Ev Try.prog 7 [] [] [] (selvagelaw17_awake.o r) := by
 unfold selvagelaw17_awake.m at H
 obtain ⟨g_1, H⟩ := gdE H
 let v_2 : List api_Loc := List.replicate (1 : Int).toNat ((api_Loc.mk false 0) : api_Loc)
 replace H := ltD H
 obtain ⟨r_3, e_4, H⟩ := bdE H
 rcases r_3 with r_5 | r_6 | r_7
 ·obtain ⟨r_8, e_9, H⟩ := bdE H
  rcases r_8 with r_10 | r_11
  ·obtain rfl := sj H
   exact selvagelaw17_awake.F.run tb mixed [mk api_Loc.c ((api_Loc.mk false 0) : api_Loc) (api_Loc.c (api_Loc.mk false 0)) 16 (1 : Int) (1 : Int) g_1 rfl, here 2, frz 0 [1] [], ron 1 none api_Loc.c v_2, ca [1] (emit_Emit.ev e_4), here 3, frz 3 [2] [], ca [4] (thread_Do.ev e_9), au, pT, au, pF] rfl (by kernel_rfl)
  ·rcases ic H with ⟨h_12, H⟩ | ⟨h_12, H⟩
   ·obtain ⟨r_13, e_14, H⟩ := bdE H
    obtain ⟨r_15, e_16, H⟩ := bdE H
    obtain rfl := sj H
    exact selvagelaw17_awake.F.run tb mixed [mk api_Loc.c ((api_Loc.mk false 0) : api_Loc) (api_Loc.c (api_Loc.mk false 0)) 16 (1 : Int) (1 : Int) g_1 rfl, here 2, frz 0 [1] [], ron 1 none api_Loc.c v_2, ca [1] (emit_Emit.ev e_4), here 3, frz 3 [2] [], ca [4] (thread_Do.ev e_9), here 4, frz 8 [] [(9, 0)], au, pT, br h_12, ca [] (thread_Acts.ev e_14), ca [12, 13] (selvageref08_Same.ev e_16), pT] rfl (by kernel_rfl)
   ·obtain rfl := sj H
    exact selvagelaw17_awake.F.run tb mixed [mk api_Loc.c ((api_Loc.mk false 0) : api_Loc) (api_Loc.c (api_Loc.mk false 0)) 16 (1 : Int) (1 : Int) g_1 rfl, here 2, frz 0 [1] [], ron 1 none api_Loc.c v_2, ca [1] (emit_Emit.ev e_4), here 3, frz 3 [2] [], ca [4] (thread_Do.ev e_9), here 4, frz 8 [] [(9, 0)], au, pT, br h_12, pF] rfl (by kernel_rfl)
 ·obtain ⟨r_17, e_18, H⟩ := bdE H
  rcases r_17 with r_19 | r_20
  ·rcases ic H with ⟨h_21, H⟩ | ⟨h_21, H⟩
   ·obtain rfl := sj H
    exact selvagelaw17_awake.F.run tb mixed [mk api_Loc.c ((api_Loc.mk false 0) : api_Loc) (api_Loc.c (api_Loc.mk false 0)) 16 (1 : Int) (1 : Int) g_1 rfl, here 2, frz 0 [1] [], ron 1 none api_Loc.c v_2, ca [1] (emit_Emit.ev e_4), on_ 2 (nzm 5), ca [2] (thread_Do.ev e_18), br h_21, pT, au, pF] rfl (by kernel_rfl)
   ·obtain rfl := sj H
    exact selvagelaw17_awake.F.run tb mixed [mk api_Loc.c ((api_Loc.mk false 0) : api_Loc) (api_Loc.c (api_Loc.mk false 0)) 16 (1 : Int) (1 : Int) g_1 rfl, here 2, frz 0 [1] [], ron 1 none api_Loc.c v_2, ca [1] (emit_Emit.ev e_4), on_ 2 (nzm 5), ca [2] (thread_Do.ev e_18), br h_21, pF, au, pF] rfl (by kernel_rfl)
  ·rcases ic H with ⟨h_22, H⟩ | ⟨h_22, H⟩
   ·rcases ic H with ⟨h_23, H⟩ | ⟨h_23, H⟩
    ·obtain ⟨r_24, e_25, H⟩ := bdE H
     obtain ⟨r_26, e_27, H⟩ := bdE H
     obtain rfl := sj H
     exact selvagelaw17_awake.F.run tb mixed [mk api_Loc.c ((api_Loc.mk false 0) : api_Loc) (api_Loc.c (api_Loc.mk false 0)) 16 (1 : Int) (1 : Int) g_1 rfl, here 2, frz 0 [1] [], ron 1 none api_Loc.c v_2, ca [1] (emit_Emit.ev e_4), on_ 2 (nzm 5), ca [2] (thread_Do.ev e_18), here 4, frz 6 [] [(7, 0)], br h_22, pT, br h_23, ca [] (thread_Acts.ev e_25), ca [10, 11] (selvageref08_Same.ev e_27), pT] rfl (by kernel_rfl)
    ·obtain rfl := sj H
     exact selvagelaw17_awake.F.run tb mixed [mk api_Loc.c ((api_Loc.mk false 0) : api_Loc) (api_Loc.c (api_Loc.mk false 0)) 16 (1 : Int) (1 : Int) g_1 rfl, here 2, frz 0 [1] [], ron 1 none api_Loc.c v_2, ca [1] (emit_Emit.ev e_4), on_ 2 (nzm 5), ca [2] (thread_Do.ev e_18), here 4, frz 6 [] [(7, 0)], br h_22, pT, br h_23, pF] rfl (by kernel_rfl)
   ·obtain rfl := sj H
    exact selvagelaw17_awake.F.run tb mixed [mk api_Loc.c ((api_Loc.mk false 0) : api_Loc) (api_Loc.c (api_Loc.mk false 0)) 16 (1 : Int) (1 : Int) g_1 rfl, here 2, frz 0 [1] [], ron 1 none api_Loc.c v_2, ca [1] (emit_Emit.ev e_4), on_ 2 (nzm 5), ca [2] (thread_Do.ev e_18), here 4, frz 6 [] [(7, 0)], br h_22, pF, au, pF] rfl (by kernel_rfl)
 ·obtain ⟨r_28, e_29, H⟩ := bdE H
  rcases r_28 with r_30 | r_31
  ·obtain rfl := sj H
   exact selvagelaw17_awake.F.run tb mixed [mk api_Loc.c ((api_Loc.mk false 0) : api_Loc) (api_Loc.c (api_Loc.mk false 0)) 16 (1 : Int) (1 : Int) g_1 rfl, here 2, frz 0 [1] [], ron 1 none api_Loc.c v_2, ca [1] (emit_Emit.ev e_4), here 3, frz 4 [2] [], ron 2 none api_Inst.c r_7.1, ca [5] (thread_Do.ev e_29), au, pT, au, pF] rfl (by kernel_rfl)
  ·rcases ic H with ⟨h_32, H⟩ | ⟨h_32, H⟩
   ·obtain ⟨r_33, e_34, H⟩ := bdE H
    obtain ⟨r_35, e_36, H⟩ := bdE H
    obtain rfl := sj H
    exact selvagelaw17_awake.F.run tb mixed [mk api_Loc.c ((api_Loc.mk false 0) : api_Loc) (api_Loc.c (api_Loc.mk false 0)) 16 (1 : Int) (1 : Int) g_1 rfl, here 2, frz 0 [1] [], ron 1 none api_Loc.c v_2, ca [1] (emit_Emit.ev e_4), here 3, frz 4 [2] [], ron 2 none api_Inst.c r_7.1, ca [5] (thread_Do.ev e_29), here 4, frz 9 [] [(10, 0)], au, pT, br h_32, ca [] (thread_Acts.ev e_34), ca [13, 14] (selvageref08_Same.ev e_36), pT] rfl (by kernel_rfl)
   ·obtain rfl := sj H
    exact selvagelaw17_awake.F.run tb mixed [mk api_Loc.c ((api_Loc.mk false 0) : api_Loc) (api_Loc.c (api_Loc.mk false 0)) 16 (1 : Int) (1 : Int) g_1 rfl, here 2, frz 0 [1] [], ron 1 none api_Loc.c v_2, ca [1] (emit_Emit.ev e_4), here 3, frz 4 [2] [], ron 2 none api_Inst.c r_7.1, ca [5] (thread_Do.ev e_29), here 4, frz 9 [] [(10, 0)], au, pT, br h_32, pF] rfl (by kernel_rfl)
def selvagelaw17_awake.k : Option (Bool) :=
 if 0 ≤ (1 : Int) ∧ (1 : Int) ≤ 1 ∧ (1 : Int) * (16 : Nat) ≤ 140737488355328 then (letK (List.replicate (1 : Int).toNat ((api_Loc.mk false 0) : api_Loc)) fun v_2 => (emit_Emit.k v_2 3 ([(api_Ins.mk 6 0 0 0 0 0 0 0), (api_Ins.mk 15 0 0 0 0 0 0 0), (api_Ins.mk 18 0 0 0 0 0 0 0)] : List api_Ins) 3).bind fun r_3 => match r_3 with | Sum.inl r_5 => ((thread_Do.k r_5 1 0 ([7] : List Int) 1).bind fun r_8 => match r_8 with | Sum.inl r_10 => (some false) | Sum.inr (r_11) => (if r_11.2 = 1 then ((thread_Acts.k r_11.1 v_2).bind fun r_13 => (selvageref08_Same.k r_13 ([(api_Act.mk 1 0 7 0), (api_Act.mk 6 0 0 7)] : List api_Act) 2).bind fun r_15 => some r_15) else (some false))) | Sum.inr (Sum.inl r_6) => ((thread_Do.k ([] : List api_Inst) 1 0 ([7] : List Int) 1).bind fun r_17 => match r_17 with | Sum.inl r_19 => (if r_6 = 0 then (some false) else (some false)) | Sum.inr (r_20) => (if r_6 = 0 then (if r_20.2 = 1 then ((thread_Acts.k r_20.1 v_2).bind fun r_24 => (selvageref08_Same.k r_24 ([(api_Act.mk 1 0 7 0), (api_Act.mk 6 0 0 7)] : List api_Act) 2).bind fun r_26 => some r_26) else (some false)) else (some false))) | Sum.inr (Sum.inr (r_7)) => ((thread_Do.k r_7.1 1 0 ([7] : List Int) 1).bind fun r_28 => match r_28 with | Sum.inl r_30 => (some false) | Sum.inr (r_31) => (if r_31.2 = 1 then ((thread_Acts.k r_31.1 v_2).bind fun r_33 => (selvageref08_Same.k r_33 ([(api_Act.mk 1 0 7 0), (api_Act.mk 6 0 0 7)] : List api_Act) 2).bind fun r_35 => some r_35) else (some false)))) else none
theorem selvagelaw17_awake.k_le : OLe (selvagelaw17_awake.k ) (selvagelaw17_awake.m ) := by
 unfold selvagelaw17_awake.k selvagelaw17_awake.m
 repeat' with_reducible first | exact emit_Emit.k_le .. | exact thread_Do.k_le .. | exact thread_Acts.k_le .. | exact selvageref08_Same.k_le .. | refine OLe.lt (fun _ => ?_) | refine OLe.lp (fun _ => ?_) | refine OLe.bind ?_ (fun _ => ?_) | refine OLe.ite ?_ ?_ | exact OLe.rfl' | split
 all_goals (exfalso; simp_all)
theorem selvagelaw17_awake_eq : selvagelaw17_awake.m = some true := selvagelaw17_awake.k_le.to (by kernel_rfl)
noncomputable def selvagelaw17_small.F : FI Try.prog 8 := ⟨Try.f8, 20, (Try.f8.body.getD .skip), Try.f8.results.toList, Try.call8, Try.func8, by kernel_rfl, by kernel_rfl, by kernel_rfl⟩
def selvagelaw17_small.m (a_1 : List api_Ins) (a_2 : List api_Loc) (a_3 : List Int) : Bool :=
 if (a_1.length : Int) ≤ 410 then (if (a_2.length : Int) ≤ 16 then ((decide ((a_3.length : Int) ≤ 200))) else (false)) else (false)
noncomputable def selvagelaw17_small.o (a_1 : List api_Ins) (a_2 : List api_Loc) (a_3 : List Int) (r : Bool) : Out := .ret (.v (.bool r)) [] []
theorem selvagelaw17_small.ev {a_1 : List api_Ins} {a_2 : List api_Loc} {a_3 : List Int} {r : Bool} (H : selvagelaw17_small.m a_1 a_2 a_3 = r) : Ev Try.prog 8 [.ro false 8 a_1.length (a_1.map api_Ins.c), .ro false 2 a_2.length (a_2.map api_Loc.c), .ro false 1 a_3.length (a_3.map (cI .i64))] [] [] (selvagelaw17_small.o a_1 a_2 a_3 r) := by
 unfold selvagelaw17_small.m at H
 rcases ic H with ⟨h_4, H⟩ | ⟨h_4, H⟩
 ·rcases ic H with ⟨h_5, H⟩ | ⟨h_5, H⟩
  ·subst H
   exact selvagelaw17_small.F.run tb mixed [br h_4, pT, br h_5, pT] rfl (by kernel_rfl)
  ·subst H
   exact selvagelaw17_small.F.run tb mixed [br h_4, pT, br h_5, pF] rfl (by kernel_rfl)
 ·subst H
  exact selvagelaw17_small.F.run tb mixed [br h_4, pF, au, pF] rfl (by kernel_rfl)
noncomputable def emit_Emit_2.F : FI Try.prog 10 := ⟨Try.f10, 86, (Try.f10.body.getD .skip), Try.f10.results.toList, Try.call10, Try.func10, by kernel_rfl, by kernel_rfl, by kernel_rfl⟩
def emit_Emit_2.l2 (s_24 : Unit) : Option (Unit ⊕ Unit) :=
 some (Sum.inr ())
def emit_Emit_2.l1 (a_1 : List api_Ins) (s_11 : (List api_Inst) × (List Int) × Int) : Option (((List api_Inst) × (List Int) × Int) ⊕ ((List api_Inst) × (List Int))) :=
 if s_11.2.2 < (a_1.length : Int) then (if 0 ≤ s_11.2.2 ∧ s_11.2.2 < (a_1.length : Int) then (letC (gi a_1 s_11.2.2) fun v_17 => if (s_11.2.1.length + ([(s_11.1.length : Int)] : List Int).length) * 8 ≤ 140737488355328 then (letC (s_11.2.1 ++ ([(s_11.1.length : Int)] : List Int)) fun v_19 => (emit_writer_piece_3.m v_17 s_11.1 v_19).bind fun r_20 => letC (wr .i64 (s_11.2.2 + 1)) fun v_22 => some (Sum.inl (r_20, v_19, v_22))) else none) else none) else (some (Sum.inr (s_11.1, s_11.2.1)))
def emit_Emit_2.l4 (o_31 : (List api_Inst) × (List Int) × (List emit_jump)) (s_44 : (List api_Inst) × Int) : Option (((List api_Inst) × Int) ⊕ (List api_Inst)) :=
 if s_44.2 < (o_31.2.2.length : Int) then (if 0 ≤ s_44.2 ∧ s_44.2 < (o_31.2.2.length : Int) then (letC (gi o_31.2.2 s_44.2) fun v_50 => if 0 ≤ v_50.to_ ∧ v_50.to_ < (o_31.2.1.length : Int) then (letC (gi o_31.2.1 v_50.to_) fun v_52 => letC (wr .i64 (v_52 - v_50.from_)) fun v_53 => if 0 ≤ v_50.from_ ∧ v_50.from_ < (o_31.1.length : Int) then (if 0 ≤ v_50.from_ ∧ v_50.from_ < (s_44.1.length : Int) then (letC (gi s_44.1 v_50.from_) fun v_56 => letC (s_44.1.set v_50.from_.toNat (api_Inst.mk v_56.Op v_56.T v_56.A v_56.B (wr .i64 ((4 : Int) * v_53)))) fun v_57 => letC (wr .i64 (s_44.2 + 1)) fun v_58 => some (Sum.inl (v_57, v_58))) else none) else none) else none) else none) else (some (Sum.inr s_44.1))
def emit_Emit_2.l3 (a_1 : List api_Ins) (r_7 : (List api_Home) × Nat) (s_30 : (List api_Inst) × (List Int) × (List emit_jump) × Int) : Option (((List api_Inst) × (List Int) × (List emit_jump) × Int) ⊕ ((List api_Inst) × (List Int) × (List emit_jump))) :=
 if s_30.2.2.2 < (a_1.length : Int) then (if 0 ≤ s_30.2.2.2 ∧ s_30.2.2.2 < (a_1.length : Int) then (letC (gi a_1 s_30.2.2.2) fun v_36 => if (s_30.2.1.length + ([(s_30.1.length : Int)] : List Int).length) * 8 ≤ 140737488355328 then (letC (s_30.2.1 ++ ([(s_30.1.length : Int)] : List Int)) fun v_38 => (emit_writer_piece_7.m v_36 r_7.1 r_7.2 s_30.1 v_38 s_30.2.2.1).bind fun r_39 => letC (wr .i64 (s_30.2.2.2 + 1)) fun v_41 => some (Sum.inl (r_39.1, v_38, r_39.2, v_41))) else none) else none) else (some (Sum.inr (s_30.1, s_30.2.1, s_30.2.2.1)))
def emit_Emit_2.m (a_1 : List api_Ins) (a_2 : List api_Loc) (a_3 : Int) : Option ((List api_Inst) ⊕ Int ⊕ ((List api_Inst) × Nat)) :=
 (alloc_Homes.m a_1 a_2 a_3).bind fun r_4 => match r_4 with | Sum.inl r_6 => (if r_6 = 0 then ((B.loop (emit_Emit_2.l1 a_1) ((([] : List api_Inst), ([] : List Int), 0) : (List api_Inst) × (List Int) × Int)).bind fun o_12 => (B.loop emit_Emit_2.l2 (() : Unit)).bind fun o_25 => some (Sum.inl o_12.1)) else (some (Sum.inr (Sum.inl r_6)))) | Sum.inr (r_7) => ((B.loop (emit_Emit_2.l3 a_1 r_7) ((([] : List api_Inst), ([] : List Int), ([] : List emit_jump), 0) : (List api_Inst) × (List Int) × (List emit_jump) × Int)).bind fun o_31 => (B.loop (emit_Emit_2.l4 o_31) ((o_31.1, 0) : (List api_Inst) × Int)).bind fun o_45 => some (Sum.inr (Sum.inr ((o_45, o_31.1.length)))))
noncomputable def emit_Emit_2.o (a_1 : List api_Ins) (a_2 : List api_Loc) (a_3 : Int) (r : (List api_Inst) ⊕ Int ⊕ ((List api_Inst) × Nat)) : Out := match r with | Sum.inl r => .ret (.tup [.sl 0 1 r.length 0 r.length, .v (.int .i64 0)]) [.dead, .arr true 39 5 r.length (r.map api_Inst.c)] [] | Sum.inr (Sum.inl r) => .ret (.tup [.v (.slice none 0 0), .v (.int .i64 r)]) [] [] | Sum.inr (Sum.inr (r)) => .ret (.tup [.sl 0 2 r.2 0 r.2, .v (.int .i64 0)]) [.dead, .dead, .arr true 39 5 r.2 (r.1.map api_Inst.c)] []
theorem emit_Emit_2.ev {a_1 : List api_Ins} {a_2 : List api_Loc} {a_3 : Int} {r : (List api_Inst) ⊕ Int ⊕ ((List api_Inst) × Nat)} (H : emit_Emit_2.m a_1 a_2 a_3 = some r) : Ev Try.prog 10 [.ro false 8 a_1.length (a_1.map api_Ins.c), .ro false 2 a_2.length (a_2.map api_Loc.c), .v (.int .i64 a_3)] [] [] (emit_Emit_2.o a_1 a_2 a_3 r) := by
 unfold emit_Emit_2.m at H
 obtain ⟨r_4, e_5, H⟩ := bdE H
 rcases r_4 with r_6 | r_7
 ·rcases ic H with ⟨h_8, H⟩ | ⟨h_8, H⟩
  ·obtain ⟨o_12, e_13, H⟩ := bdE H
   have j_14 := Runs.loop (P := Try.prog) (N := emit_Emit_2.F.N) (m0 := 0) (c := sub_ emit_Emit_2.F.c [1, 1, 1, 1, 0, 1, 0, 0]) (f := (emit_Emit_2.l1 a_1)) (St := fun s_11 => ⟨[(10, .ref 0 0), (28, .ro false 8 a_1.length (a_1.map api_Ins.c)), (29, .v (.int .i64 (a_1.length : Int))), (30, .v (.int .i64 s_11.2.2))], [.box [.v (.slice none 0 0), .sl 0 1 s_11.1.length 0 s_11.1.length, .sl 0 2 s_11.2.1.length 0 s_11.2.1.length, .v (.slice none 0 0)], .arr true 39 5 s_11.1.length (s_11.1.map api_Inst.c), .arr true 3 1 s_11.2.1.length (s_11.2.1.map (cI .i64))], []⟩) (xo := (fun _ => (.exit 0) : ((List api_Inst) × (List Int)) → Ex)) (So := (fun o_12 => ⟨[(10, .ref 0 0)], [.box [.v (.slice none 0 0), .sl 0 1 o_12.1.length 0 o_12.1.length, .sl 0 2 o_12.2.length 0 o_12.2.length, .v (.slice none 0 0)], .arr true 39 5 o_12.1.length (o_12.1.map api_Inst.c), .arr true 3 1 o_12.2.length (o_12.2.map (cI .i64))], []⟩ : ((List api_Inst) × (List Int)) → ASt)) (by intro o; simp) (fun s_11 z H => by
    unfold emit_Emit_2.l1 at H
    rcases ic H with ⟨h_15, H⟩ | ⟨h_15, H⟩
    ·obtain ⟨g_16, H⟩ := gdE H
     let v_17 : api_Ins := gi a_1 s_11.2.2
     replace H := ltD H
     obtain ⟨g_18, H⟩ := gdE H
     let v_19 : List Int := s_11.2.1 ++ ([(s_11.1.length : Int)] : List Int)
     replace H := ltD H
     obtain ⟨r_20, e_21, H⟩ := bdE H
     let v_22 : Int := wr .i64 (s_11.2.2 + 1)
     replace H := ltD H
     obtain rfl := sj H
     exact fn [br h_15, ix api_Ins.c g_16, ap (cI .i64) 8 false s_11.2.1 ([(s_11.1.length : Int)] : List Int) g_18 (fun h => by cases h), ca [0, 1, 2] (emit_writer_piece_3.ev e_21)] (by kernel_rfl)
    ·obtain rfl := sj H
     exact fn [br h_15] (by kernel_rfl)) e_13
   obtain ⟨o_25, e_26, H⟩ := bdE H
   have j_27 := Runs.loop (P := Try.prog) (N := emit_Emit_2.F.N) (m0 := 0) (c := sub_ emit_Emit_2.F.c [1, 1, 1, 1, 1, 0, 1, 0, 0]) (f := emit_Emit_2.l2) (St := fun s_24 => ⟨[(10, .ref 0 0), (55, .v (.slice none 0 0)), (56, .v (.int .i64 0)), (57, .v (.int .i64 0))], [.box [.v (.slice none 0 0), .sl 0 1 o_12.1.length 0 o_12.1.length, .sl 0 2 o_12.2.length 0 o_12.2.length, .v (.slice none 0 0)], .arr true 39 5 o_12.1.length (o_12.1.map api_Inst.c), .arr true 3 1 o_12.2.length (o_12.2.map (cI .i64))], []⟩) (xo := (fun _ => (.exit 2) : Unit → Ex)) (So := (fun o_25 => ⟨[(10, .ref 0 0)], [.box [.v (.slice none 0 0), .sl 0 1 o_12.1.length 0 o_12.1.length, .sl 0 2 o_12.2.length 0 o_12.2.length, .v (.slice none 0 0)], .arr true 39 5 o_12.1.length (o_12.1.map api_Inst.c), .arr true 3 1 o_12.2.length (o_12.2.map (cI .i64))], []⟩ : Unit → ASt)) (by intro o; simp) (fun s_24 z H => by
    unfold emit_Emit_2.l2 at H
    obtain rfl := sj H
    exact fn [au] (by kernel_rfl)) e_26
   obtain rfl := sj H
   exact emit_Emit_2.F.run tb mixed [ca [] (alloc_Homes.ev e_5), bn h_8, su j_14, adB 0 1 (some 39) 5, adB 0 2 (some 3) 1, su j_27] rfl (by kernel_rfl)
  ·obtain rfl := sj H
   exact emit_Emit_2.F.run tb mixed [ca [] (alloc_Homes.ev e_5), bn h_8] rfl (by kernel_rfl)
 ·obtain ⟨o_31, e_32, H⟩ := bdE H
  have j_33 := Runs.loop (P := Try.prog) (N := emit_Emit_2.F.N) (m0 := 0) (c := sub_ emit_Emit_2.F.c [1, 1, 1, 1, 0, 1, 0, 0]) (f := (emit_Emit_2.l3 a_1 r_7)) (St := fun s_30 => ⟨[(10, .ref 1 0), (28, .ro false 8 a_1.length (a_1.map api_Ins.c)), (29, .v (.int .i64 (a_1.length : Int))), (30, .v (.int .i64 s_30.2.2.2))], [.arr true 79 2 r_7.2 (r_7.1.map api_Home.c), .box [.sl 0 0 r_7.2 0 r_7.2, .sl 0 2 s_30.1.length 0 s_30.1.length, .sl 0 3 s_30.2.1.length 0 s_30.2.1.length, .sl 0 4 s_30.2.2.1.length 0 s_30.2.2.1.length], .arr true 39 5 s_30.1.length (s_30.1.map api_Inst.c), .arr true 3 1 s_30.2.1.length (s_30.2.1.map (cI .i64)), .arr true 74 2 s_30.2.2.1.length (s_30.2.2.1.map emit_jump.c)], []⟩) (xo := (fun _ => (.exit 0) : ((List api_Inst) × (List Int) × (List emit_jump)) → Ex)) (So := (fun o_31 => ⟨[(10, .ref 1 0)], [.arr true 79 2 r_7.2 (r_7.1.map api_Home.c), .box [.sl 0 0 r_7.2 0 r_7.2, .sl 0 2 o_31.1.length 0 o_31.1.length, .sl 0 3 o_31.2.1.length 0 o_31.2.1.length, .sl 0 4 o_31.2.2.length 0 o_31.2.2.length], .arr true 39 5 o_31.1.length (o_31.1.map api_Inst.c), .arr true 3 1 o_31.2.1.length (o_31.2.1.map (cI .i64)), .arr true 74 2 o_31.2.2.length (o_31.2.2.map emit_jump.c)], []⟩ : ((List api_Inst) × (List Int) × (List emit_jump)) → ASt)) (by intro o; simp) (fun s_30 z H => by
   unfold emit_Emit_2.l3 at H
   rcases ic H with ⟨h_34, H⟩ | ⟨h_34, H⟩
   ·obtain ⟨g_35, H⟩ := gdE H
    let v_36 : api_Ins := gi a_1 s_30.2.2.2
    replace H := ltD H
    obtain ⟨g_37, H⟩ := gdE H
    let v_38 : List Int := s_30.2.1 ++ ([(s_30.1.length : Int)] : List Int)
    replace H := ltD H
    obtain ⟨r_39, e_40, H⟩ := bdE H
    let v_41 : Int := wr .i64 (s_30.2.2.2 + 1)
    replace H := ltD H
    obtain rfl := sj H
    exact fn [br h_34, ix api_Ins.c g_35, ap (cI .i64) 8 false s_30.2.1 ([(s_30.1.length : Int)] : List Int) g_37 (fun h => by cases h), ca [1, 0, 2, 3, 4] (emit_writer_piece_7.ev e_40)] (by kernel_rfl)
   ·obtain rfl := sj H
    exact fn [br h_34] (by kernel_rfl)) e_32
  obtain ⟨o_45, e_46, H⟩ := bdE H
  have j_47 := Runs.loop (P := Try.prog) (N := emit_Emit_2.F.N) (m0 := 0) (c := sub_ emit_Emit_2.F.c [1, 1, 1, 1, 1, 0, 1, 0, 0]) (f := (emit_Emit_2.l4 o_31)) (St := fun s_44 => ⟨[(10, .ref 1 0), (55, .sl 0 4 o_31.2.2.length 0 o_31.2.2.length), (56, .v (.int .i64 (o_31.2.2.length : Int))), (57, .v (.int .i64 s_44.2))], [.arr true 79 2 r_7.2 (r_7.1.map api_Home.c), .box [.sl 0 0 r_7.2 0 r_7.2, .sl 0 2 o_31.1.length 0 o_31.1.length, .sl 0 3 o_31.2.1.length 0 o_31.2.1.length, .sl 0 4 o_31.2.2.length 0 o_31.2.2.length], .arr true 39 5 o_31.1.length (s_44.1.map api_Inst.c), .arr true 3 1 o_31.2.1.length (o_31.2.1.map (cI .i64)), .arr true 74 2 o_31.2.2.length (o_31.2.2.map emit_jump.c)], []⟩) (xo := (fun _ => (.exit 2) : (List api_Inst) → Ex)) (So := (fun o_45 => ⟨[(10, .ref 1 0)], [.arr true 79 2 r_7.2 (r_7.1.map api_Home.c), .box [.sl 0 0 r_7.2 0 r_7.2, .sl 0 2 o_31.1.length 0 o_31.1.length, .sl 0 3 o_31.2.1.length 0 o_31.2.1.length, .sl 0 4 o_31.2.2.length 0 o_31.2.2.length], .arr true 39 5 o_31.1.length (o_45.map api_Inst.c), .arr true 3 1 o_31.2.1.length (o_31.2.1.map (cI .i64)), .arr true 74 2 o_31.2.2.length (o_31.2.2.map emit_jump.c)], []⟩ : (List api_Inst) → ASt)) (by intro o; simp) (fun s_44 z H => by
   unfold emit_Emit_2.l4 at H
   rcases ic H with ⟨h_48, H⟩ | ⟨h_48, H⟩
   ·obtain ⟨g_49, H⟩ := gdE H
    let v_50 : emit_jump := gi o_31.2.2 s_44.2
    replace H := ltD H
    obtain ⟨g_51, H⟩ := gdE H
    let v_52 : Int := gi o_31.2.1 v_50.to_
    replace H := ltD H
    let v_53 : Int := wr .i64 (v_52 - v_50.from_)
    replace H := ltD H
    obtain ⟨g_54, H⟩ := gdE H
    obtain ⟨g_55, H⟩ := gdE H
    let v_56 : api_Inst := gi s_44.1 v_50.from_
    replace H := ltD H
    let v_57 : List api_Inst := s_44.1.set v_50.from_.toNat (api_Inst.mk v_56.Op v_56.T v_56.A v_56.B (wr .i64 ((4 : Int) * v_53)))
    replace H := ltD H
    let v_58 : Int := wr .i64 (s_44.2 + 1)
    replace H := ltD H
    obtain rfl := sj H
    exact fn [br h_48, pf g_49, el emit_jump.c g_49, pf g_51, el (cI .i64) g_51, pf g_54, up api_Inst.c 4 [.v (.int .i64 (wr .i64 ((4 : Int) * v_53)))] (api_Inst.mk v_56.Op v_56.T v_56.A v_56.B (wr .i64 ((4 : Int) * v_53))) g_55 (by kernel_rfl)] (by kernel_rfl)
   ·obtain rfl := sj H
    exact fn [br h_48] (by kernel_rfl)) e_46
  obtain rfl := sj H
  exact emit_Emit_2.F.run tb mixed [ca [] (alloc_Homes.ev e_5), au, su j_33, adB 1 1 (some 39) 5, adB 1 2 (some 3) 1, adB 1 3 (some 74) 2, su j_47] rfl (by kernel_rfl)
noncomputable def thread_Do_2.F : FI Try.prog 14 := ⟨Try.f14, 91, (Try.f14.body.getD .skip), Try.f14.results.toList, Try.call14, Try.func14, by kernel_rfl, by kernel_rfl, by kernel_rfl⟩
noncomputable def thread_Do_2.G : FI Try.prog 30 := ⟨Try.f30, 14, (Try.f30.body.getD .skip), Try.f30.results.toList, Try.call30, Try.func30, by kernel_rfl, by kernel_rfl, by kernel_rfl⟩
def thread_Do_2.l2 (a_1 : List api_Inst) (a_2 : Int) (v_27 : Int) (s_34 : (List Int) × (Arr thread_cell 32) × (Arr thread_cell 400) × Bool × Bool × Int × Int × Int × Int × Int × (List api_Event) × Int × Int) : Option (((List Int) × (Arr thread_cell 32) × (Arr thread_cell 400) × Bool × Bool × Int × Int × Int × Int × Int × (List api_Event) × Int × Int) ⊕ ((Int × (List Int) × (Arr thread_cell 32) × (Arr thread_cell 400) × Bool × Bool × Int × Int × Int × Int × Int × (List api_Event)) ⊕ ((List Int) × (Arr thread_cell 32) × (Arr thread_cell 400) × Bool × Bool × Int × Int × Int × Int × Int × (List api_Event) × Int))) :=
 (if s_34.2.2.2.2.2.2.2.2.2.2.2.1 < 0 then (some (true : Bool)) else (some ((decide (s_34.2.2.2.2.2.2.2.2.2.2.2.1 ≥ (a_1.length : Int))) : Bool)) : Option Bool).bind fun o_40 => if o_40 = true then (some (Sum.inr (Sum.inl (6, s_34.1, s_34.2.1, s_34.2.2.1, s_34.2.2.2.1, s_34.2.2.2.2.1, s_34.2.2.2.2.2.1, s_34.2.2.2.2.2.2.1, s_34.2.2.2.2.2.2.2.1, s_34.2.2.2.2.2.2.2.2.1, s_34.2.2.2.2.2.2.2.2.2.1, s_34.2.2.2.2.2.2.2.2.2.2.1)))) else (if s_34.2.2.2.2.2.2.2.2.2.2.2.2 = 8000 then (some (Sum.inr (Sum.inl (5, s_34.1, s_34.2.1, s_34.2.2.1, s_34.2.2.2.1, s_34.2.2.2.2.1, s_34.2.2.2.2.2.1, s_34.2.2.2.2.2.2.1, s_34.2.2.2.2.2.2.2.1, s_34.2.2.2.2.2.2.2.2.1, s_34.2.2.2.2.2.2.2.2.2.1, s_34.2.2.2.2.2.2.2.2.2.2.1)))) else (if 0 ≤ s_34.2.2.2.2.2.2.2.2.2.2.2.1 ∧ s_34.2.2.2.2.2.2.2.2.2.2.2.1 < (a_1.length : Int) then (letC (gi a_1 s_34.2.2.2.2.2.2.2.2.2.2.2.1) fun v_47 => (thread_thread_step_2.m v_47 a_1 a_2 v_27 s_34.1 s_34.2.1 s_34.2.2.1 s_34.2.2.2.1 s_34.2.2.2.2.1 s_34.2.2.2.2.2.1 s_34.2.2.2.2.2.2.1 s_34.2.2.2.2.2.2.2.1 s_34.2.2.2.2.2.2.2.2.1 s_34.2.2.2.2.2.2.2.2.2.1 s_34.2.2.2.2.2.2.2.2.2.2.1).bind fun r_48 => match r_48 with | Sum.inl r_50 => (letC (wr .i64 (s_34.2.2.2.2.2.2.2.2.2.2.2.1 + r_50.2.2.2.2.2.2.2.2.2.2.2)) fun v_52 => letC (wr .i64 (s_34.2.2.2.2.2.2.2.2.2.2.2.2 + 1)) fun v_53 => some (Sum.inl (r_50.1, r_50.2.1, r_50.2.2.1, r_50.2.2.2.1, r_50.2.2.2.2.1, r_50.2.2.2.2.2.1, r_50.2.2.2.2.2.2.1, r_50.2.2.2.2.2.2.2.1, r_50.2.2.2.2.2.2.2.2.1, r_50.2.2.2.2.2.2.2.2.2.1, r_50.2.2.2.2.2.2.2.2.2.2.1, v_52, v_53))) | Sum.inr (r_51) => (some (Sum.inr (Sum.inr ((s_34.1, s_34.2.1, s_34.2.2.1, s_34.2.2.2.1, s_34.2.2.2.2.1, s_34.2.2.2.2.2.1, s_34.2.2.2.2.2.2.1, s_34.2.2.2.2.2.2.2.1, s_34.2.2.2.2.2.2.2.2.1, s_34.2.2.2.2.2.2.2.2.2.1, s_34.2.2.2.2.2.2.2.2.2.2.1, r_51)))))) else none))
def thread_Do_2.l1 (a_1 : List api_Inst) (s_14 : Int) : Option (Int ⊕ (Unit ⊕ Unit)) :=
 if s_14 < (a_1.length : Int) then (if 0 ≤ s_14 ∧ s_14 < (a_1.length : Int) then (letC (gi a_1 s_14) fun v_22 => (isa_Encode.m v_22).bind fun r_23 => if r_23.2 = 0 then (some (Sum.inl (wr .i64 (s_14 + 1)))) else (some (Sum.inr (Sum.inl ())))) else none) else (some (Sum.inr (Sum.inr (()))))
def thread_Do_2.m (a_1 : List api_Inst) (a_2 : Int) (a_3 : Int) (a_4 : List Int) : Option (Unit ⊕ ((List api_Event) × Int)) :=
 (if a_2 < 0 then (some (true : Bool)) else (if a_2 > 16 then (some (true : Bool)) else (if a_3 < 0 then (some (true : Bool)) else (some ((decide (a_3 ≥ 3)) : Bool)))) : Option Bool).bind fun o_5 => if o_5 = true then (some (Sum.inl ())) else ((B.loop (thread_Do_2.l1 a_1) (0 : Int)).bind fun o_15 => match o_15 with | Sum.inl s_18 => (some (Sum.inl ())) | Sum.inr (s_19) => (letC (wr .i64 (a_3 * 2 ^ (min (16 : Int).toNat 64))) fun v_26 => letC (wr .i64 ((1048576 : Int) + v_26)) fun v_27 => letC ((Arr.r 32 ((thread_cell.mk 0 0) : thread_cell) : Arr thread_cell 32).g 1) fun v_28 => letC ((Arr.r 32 ((thread_cell.mk 0 0) : thread_cell) : Arr thread_cell 32).s 1 (thread_cell.mk v_27 v_28.hang)) fun v_29 => letC (v_29.g 2) fun v_30 => letC (v_29.s 2 (thread_cell.mk 65536 v_30.hang)) fun v_31 => (B.loop (thread_Do_2.l2 a_1 a_2 v_27) ((a_4, v_31, (Arr.r 400 ((thread_cell.mk 0 0) : thread_cell) : Arr thread_cell 400), false, false, 0, 0, 0, (-1), 0, ([] : List api_Event), 0, 0) : (List Int) × (Arr thread_cell 32) × (Arr thread_cell 400) × Bool × Bool × Int × Int × Int × Int × Int × (List api_Event) × Int × Int)).bind fun o_35 => match o_35 with | Sum.inl s_38 => (some (Sum.inr ((s_38.2.2.2.2.2.2.2.2.2.2.2, s_38.1)))) | Sum.inr (s_39) => (some (Sum.inr ((s_39.2.2.2.2.2.2.2.2.2.2.1, s_39.2.2.2.2.2.2.2.2.2.2.2))))))
noncomputable def thread_Do_2.o (a_1 : List api_Inst) (a_2 : Int) (a_3 : Int) (a_4 : List Int) (r : Unit ⊕ ((List api_Event) × Int)) : Out := match r with | Sum.inl r => .ret (.agg [.v (.slice none 0 0), .v (.int .i64 0)]) [] [] | Sum.inr (r) => .ret (.agg [.sl 0 3 r.1.length 0 r.1.length, .v (.int .i64 r.2)]) [.dead, .dead, .dead, .arr true 48 8 r.1.length (r.1.map api_Event.c)] []
theorem thread_Do_2.ev {a_1 : List api_Inst} {a_2 : Int} {a_3 : Int} {a_4 : List Int} {r : Unit ⊕ ((List api_Event) × Int)} (H : thread_Do_2.m a_1 a_2 a_3 a_4 = some r) : Ev Try.prog 14 [.ro false 5 a_1.length (a_1.map api_Inst.c), .v (.int .i64 a_2), .v (.int .i64 a_3), .ro false 1 a_4.length (a_4.map (cI .i64))] [] [] (thread_Do_2.o a_1 a_2 a_3 a_4 r) := by
 unfold thread_Do_2.m at H
 obtain ⟨o_5, e_6, H⟩ := bdE H
 have j_7 : Runs Try.prog thread_Do_2.F.N 0 (sub_ thread_Do_2.F.c [1, 0, 0]) ⟨[(0, .ro false 5 a_1.length (a_1.map api_Inst.c)), (1, .v (.int .i64 a_2)), (2, .v (.int .i64 a_3)), (3, .ro false 1 a_4.length (a_4.map (cI .i64))), (8, .ref 0 0)], [.box [.v (.slice none 0 0), .v (.int .i64 0)]], []⟩ ((fun _ => .normal : Bool → Ex) o_5) ((fun o_5 => ⟨[(0, .ro false 5 a_1.length (a_1.map api_Inst.c)), (1, .v (.int .i64 a_2)), (2, .v (.int .i64 a_3)), (3, .ro false 1 a_4.length (a_4.map (cI .i64))), (8, .ref 0 0), (29, .v (.bool o_5))], [.box [.v (.slice none 0 0), .v (.int .i64 0)]], []⟩ : Bool → ASt) o_5) := by
  clear H
  have H := e_6
  clear e_6
  rcases ic H with ⟨h_8, H⟩ | ⟨h_8, H⟩
  ·obtain rfl := sj H
   exact fn [br h_8, pT, au, pT, au, pT] (by kernel_rfl)
  ·rcases ic H with ⟨h_9, H⟩ | ⟨h_9, H⟩
   ·obtain rfl := sj H
    exact fn [br h_8, pF, br h_9, pT, au, pT] (by kernel_rfl)
   ·rcases ic H with ⟨h_10, H⟩ | ⟨h_10, H⟩
    ·obtain rfl := sj H
     exact fn [br h_8, pF, br h_9, pF, br h_10, pT] (by kernel_rfl)
    ·obtain rfl := sj H
     exact fn [br h_8, pF, br h_9, pF, br h_10, pF] (by kernel_rfl)
 rcases ie H with ⟨h_11, H⟩ | ⟨h_11, H⟩
 ·obtain rfl := sj H
  exact thread_Do_2.F.runD thread_Do_2.G tb mixed [sg_ 1 j_7, br h_11] rfl (by kernel_rfl) (by kernel_rfl)
 ·obtain ⟨o_15, e_16, H⟩ := bdE H
  have j_17 := Runs.loop (P := Try.prog) (N := thread_Do_2.F.N) (m0 := 0) (c := sub_ thread_Do_2.F.c [1, 1, 0, 1, 0, 0]) (f := (thread_Do_2.l1 a_1)) (St := fun s_14 => ⟨[(0, .ro false 5 a_1.length (a_1.map api_Inst.c)), (1, .v (.int .i64 a_2)), (2, .v (.int .i64 a_3)), (3, .ro false 1 a_4.length (a_4.map (cI .i64))), (8, .ref 0 0), (31, .ro false 5 a_1.length (a_1.map api_Inst.c)), (32, .v (.int .i64 (a_1.length : Int))), (33, .v (.int .i64 s_14))], [.box [.v (.slice none 0 0), .v (.int .i64 0)]], []⟩) (xo := (fun o => match o with | Sum.inl _ => .ret | Sum.inr (_) => (.exit 0) : (Unit ⊕ Unit) → Ex)) (So := (fun o => match o with | Sum.inl s_18 => ⟨[(8, .ref 0 0)], [.box [.v (.slice none 0 0), .v (.int .i64 0)]], []⟩ | Sum.inr (s_19) => ⟨[(0, .ro false 5 a_1.length (a_1.map api_Inst.c)), (1, .v (.int .i64 a_2)), (2, .v (.int .i64 a_3)), (3, .ro false 1 a_4.length (a_4.map (cI .i64))), (8, .ref 0 0)], [.box [.v (.slice none 0 0), .v (.int .i64 0)]], []⟩ : (Unit ⊕ Unit) → ASt)) (by intro o; rcases o with _ | _ <;> simp) (fun s_14 z H => by
   unfold thread_Do_2.l1 at H
   rcases ic H with ⟨h_20, H⟩ | ⟨h_20, H⟩
   ·obtain ⟨g_21, H⟩ := gdE H
    let v_22 : api_Inst := gi a_1 s_14
    replace H := ltD H
    obtain ⟨r_23, e_24, H⟩ := bdE H
    rcases ic H with ⟨h_25, H⟩ | ⟨h_25, H⟩
    ·obtain rfl := sj H
     exact fn [br h_20, ix api_Inst.c g_21, ca [] (isa_Encode.ev e_24), bn h_25] (by kernel_rfl)
    ·obtain rfl := sj H
     exact fn [br h_20, ix api_Inst.c g_21, ca [] (isa_Encode.ev e_24), bn h_25] (by kernel_rfl)
   ·obtain rfl := sj H
    exact fn [br h_20] (by kernel_rfl)) e_16
  rcases o_15 with s_18 | s_19
  ·obtain rfl := sj H
   exact thread_Do_2.F.runD thread_Do_2.G tb mixed [sg_ 1 j_7, br h_11, su j_17] rfl (by kernel_rfl) (by kernel_rfl)
  ·let v_26 : Int := wr .i64 (a_3 * 2 ^ (min (16 : Int).toNat 64))
   replace H := ltD H
   let v_27 : Int := wr .i64 ((1048576 : Int) + v_26)
   replace H := ltD H
   let v_28 : thread_cell := (Arr.r 32 ((thread_cell.mk 0 0) : thread_cell) : Arr thread_cell 32).g 1
   replace H := ltD H
   let v_29 : Arr thread_cell 32 := (Arr.r 32 ((thread_cell.mk 0 0) : thread_cell) : Arr thread_cell 32).s 1 (thread_cell.mk v_27 v_28.hang)
   replace H := ltD H
   let v_30 : thread_cell := v_29.g 2
   replace H := ltD H
   let v_31 : Arr thread_cell 32 := v_29.s 2 (thread_cell.mk 65536 v_30.hang)
   replace H := ltD H
   obtain ⟨o_35, e_36, H⟩ := bdE H
   have j_37 := Runs.loop (P := Try.prog) (N := thread_Do_2.F.N) (m0 := 3) (c := sub_ thread_Do_2.F.c [1, 1, 1, 1, 1, 1, 1, 0, 0]) (f := (thread_Do_2.l2 a_1 a_2 v_27)) (St := fun s_34 => ⟨[(0, .ro false 5 a_1.length (a_1.map api_Inst.c)), (8, .ref 0 0), (13, .ref 2 0), (14, .v (.int .i64 s_34.2.2.2.2.2.2.2.2.2.2.2.1)), (15, .v (.int .i64 s_34.2.2.2.2.2.2.2.2.2.2.2.2))], [.box [.v (.slice none 0 0), .v (.int .i64 0)], .seg [.c (.ro false 5 a_1.length (a_1.map api_Inst.c)), .c (.v (.int .i64 a_2)), .c (.v (.int .i64 v_27)), .c (.ro false 1 s_34.1.length (s_34.1.map (cI .i64))), .a 2 32 (s_34.2.1.l.map thread_cell.c), .a 2 400 (s_34.2.2.1.l.map thread_cell.c), .c (.v (.bool s_34.2.2.2.1)), .c (.v (.bool s_34.2.2.2.2.1)), .c (.v (.int .u64 s_34.2.2.2.2.2.1)), .c (.v (.int .u64 s_34.2.2.2.2.2.2.1)), .c (.v (.int .u64 s_34.2.2.2.2.2.2.2.1)), .c (.v (.int .i64 s_34.2.2.2.2.2.2.2.2.1)), .c (.v (.int .i64 s_34.2.2.2.2.2.2.2.2.2.1)), .c (.sl 0 3 s_34.2.2.2.2.2.2.2.2.2.2.1.length 0 s_34.2.2.2.2.2.2.2.2.2.2.1.length)], .box [.ref 1 0], .arr true 48 8 s_34.2.2.2.2.2.2.2.2.2.2.1.length (s_34.2.2.2.2.2.2.2.2.2.2.1.map api_Event.c)], []⟩) (xo := (fun o => match o with | Sum.inl _ => .ret | Sum.inr (s_39) => (.pan (.ifc 97 (.v (.int .i64 s_39.2.2.2.2.2.2.2.2.2.2.2)))) : ((Int × (List Int) × (Arr thread_cell 32) × (Arr thread_cell 400) × Bool × Bool × Int × Int × Int × Int × Int × (List api_Event)) ⊕ ((List Int) × (Arr thread_cell 32) × (Arr thread_cell 400) × Bool × Bool × Int × Int × Int × Int × Int × (List api_Event) × Int)) → Ex)) (So := (fun o => match o with | Sum.inl s_38 => ⟨[(8, .ref 0 0)], [.box [.v (.slice none 0 0), .v (.int .i64 s_38.1)], .seg [.c (.ro false 5 a_1.length (a_1.map api_Inst.c)), .c (.v (.int .i64 a_2)), .c (.v (.int .i64 v_27)), .c (.ro false 1 s_38.2.1.length (s_38.2.1.map (cI .i64))), .a 2 32 (s_38.2.2.1.l.map thread_cell.c), .a 2 400 (s_38.2.2.2.1.l.map thread_cell.c), .c (.v (.bool s_38.2.2.2.2.1)), .c (.v (.bool s_38.2.2.2.2.2.1)), .c (.v (.int .u64 s_38.2.2.2.2.2.2.1)), .c (.v (.int .u64 s_38.2.2.2.2.2.2.2.1)), .c (.v (.int .u64 s_38.2.2.2.2.2.2.2.2.1)), .c (.v (.int .i64 s_38.2.2.2.2.2.2.2.2.2.1)), .c (.v (.int .i64 s_38.2.2.2.2.2.2.2.2.2.2.1)), .c (.sl 0 3 s_38.2.2.2.2.2.2.2.2.2.2.2.length 0 s_38.2.2.2.2.2.2.2.2.2.2.2.length)], .box [.ref 1 0], .arr true 48 8 s_38.2.2.2.2.2.2.2.2.2.2.2.length (s_38.2.2.2.2.2.2.2.2.2.2.2.map api_Event.c)], []⟩ | Sum.inr (s_39) => ⟨[(8, .ref 0 0)], [.box [.v (.slice none 0 0), .v (.int .i64 0)], .seg [.c (.ro false 5 a_1.length (a_1.map api_Inst.c)), .c (.v (.int .i64 a_2)), .c (.v (.int .i64 v_27)), .c (.ro false 1 s_39.1.length (s_39.1.map (cI .i64))), .a 2 32 (s_39.2.1.l.map thread_cell.c), .a 2 400 (s_39.2.2.1.l.map thread_cell.c), .c (.v (.bool s_39.2.2.2.1)), .c (.v (.bool s_39.2.2.2.2.1)), .c (.v (.int .u64 s_39.2.2.2.2.2.1)), .c (.v (.int .u64 s_39.2.2.2.2.2.2.1)), .c (.v (.int .u64 s_39.2.2.2.2.2.2.2.1)), .c (.v (.int .i64 s_39.2.2.2.2.2.2.2.2.1)), .c (.v (.int .i64 s_39.2.2.2.2.2.2.2.2.2.1)), .c (.sl 0 3 s_39.2.2.2.2.2.2.2.2.2.2.1.length 0 s_39.2.2.2.2.2.2.2.2.2.2.1.length)], .box [.ref 1 0], .arr true 48 8 s_39.2.2.2.2.2.2.2.2.2.2.1.length (s_39.2.2.2.2.2.2.2.2.2.2.1.map api_Event.c)], []⟩ : ((Int × (List Int) × (Arr thread_cell 32) × (Arr thread_cell 400) × Bool × Bool × Int × Int × Int × Int × Int × (List api_Event)) ⊕ ((List Int) × (Arr thread_cell 32) × (Arr thread_cell 400) × Bool × Bool × Int × Int × Int × Int × Int × (List api_Event) × Int)) → ASt)) (by intro o; rcases o with _ | _ <;> simp) (fun s_34 z H => by
    unfold thread_Do_2.l2 at H
    obtain ⟨o_40, e_41, H⟩ := bdE H
    have j_42 : Runs Try.prog thread_Do_2.F.N 3 (sub_ thread_Do_2.F.c [1, 1, 1, 1, 1, 1, 1, 0, 0, 0, 0, 0, 0]) ⟨[(0, .ro false 5 a_1.length (a_1.map api_Inst.c)), (8, .ref 0 0), (13, .ref 2 0), (14, .v (.int .i64 s_34.2.2.2.2.2.2.2.2.2.2.2.1)), (15, .v (.int .i64 s_34.2.2.2.2.2.2.2.2.2.2.2.2))], [.box [.v (.slice none 0 0), .v (.int .i64 0)], .seg [.c (.ro false 5 a_1.length (a_1.map api_Inst.c)), .c (.v (.int .i64 a_2)), .c (.v (.int .i64 v_27)), .c (.ro false 1 s_34.1.length (s_34.1.map (cI .i64))), .a 2 32 (s_34.2.1.l.map thread_cell.c), .a 2 400 (s_34.2.2.1.l.map thread_cell.c), .c (.v (.bool s_34.2.2.2.1)), .c (.v (.bool s_34.2.2.2.2.1)), .c (.v (.int .u64 s_34.2.2.2.2.2.1)), .c (.v (.int .u64 s_34.2.2.2.2.2.2.1)), .c (.v (.int .u64 s_34.2.2.2.2.2.2.2.1)), .c (.v (.int .i64 s_34.2.2.2.2.2.2.2.2.1)), .c (.v (.int .i64 s_34.2.2.2.2.2.2.2.2.2.1)), .c (.sl 0 3 s_34.2.2.2.2.2.2.2.2.2.2.1.length 0 s_34.2.2.2.2.2.2.2.2.2.2.1.length)], .box [.ref 1 0], .arr true 48 8 s_34.2.2.2.2.2.2.2.2.2.2.1.length (s_34.2.2.2.2.2.2.2.2.2.2.1.map api_Event.c)], []⟩ ((fun _ => .normal : Bool → Ex) o_40) ((fun o_40 => ⟨[(0, .ro false 5 a_1.length (a_1.map api_Inst.c)), (8, .ref 0 0), (13, .ref 2 0), (14, .v (.int .i64 s_34.2.2.2.2.2.2.2.2.2.2.2.1)), (15, .v (.int .i64 s_34.2.2.2.2.2.2.2.2.2.2.2.2)), (78, .v (.bool o_40))], [.box [.v (.slice none 0 0), .v (.int .i64 0)], .seg [.c (.ro false 5 a_1.length (a_1.map api_Inst.c)), .c (.v (.int .i64 a_2)), .c (.v (.int .i64 v_27)), .c (.ro false 1 s_34.1.length (s_34.1.map (cI .i64))), .a 2 32 (s_34.2.1.l.map thread_cell.c), .a 2 400 (s_34.2.2.1.l.map thread_cell.c), .c (.v (.bool s_34.2.2.2.1)), .c (.v (.bool s_34.2.2.2.2.1)), .c (.v (.int .u64 s_34.2.2.2.2.2.1)), .c (.v (.int .u64 s_34.2.2.2.2.2.2.1)), .c (.v (.int .u64 s_34.2.2.2.2.2.2.2.1)), .c (.v (.int .i64 s_34.2.2.2.2.2.2.2.2.1)), .c (.v (.int .i64 s_34.2.2.2.2.2.2.2.2.2.1)), .c (.sl 0 3 s_34.2.2.2.2.2.2.2.2.2.2.1.length 0 s_34.2.2.2.2.2.2.2.2.2.2.1.length)], .box [.ref 1 0], .arr true 48 8 s_34.2.2.2.2.2.2.2.2.2.2.1.length (s_34.2.2.2.2.2.2.2.2.2.2.1.map api_Event.c)], []⟩ : Bool → ASt) o_40) := by
     clear H
     have H := e_41
     clear e_41
     rcases ic H with ⟨h_43, H⟩ | ⟨h_43, H⟩
     ·obtain rfl := sj H
      exact fn [br h_43, pT] (by kernel_rfl)
     ·obtain rfl := sj H
      exact fn [br h_43, pF] (by kernel_rfl)
    rcases ie H with ⟨h_44, H⟩ | ⟨h_44, H⟩
    ·obtain rfl := sj H
     exact fn [sg_ 15 j_42, br h_44] (by kernel_rfl)
    ·rcases ic H with ⟨h_45, H⟩ | ⟨h_45, H⟩
     ·obtain rfl := sj H
      exact fn [sg_ 15 j_42, br h_44, br h_45] (by kernel_rfl)
     ·obtain ⟨g_46, H⟩ := gdE H
      let v_47 : api_Inst := gi a_1 s_34.2.2.2.2.2.2.2.2.2.2.2.1
      replace H := ltD H
      obtain ⟨r_48, e_49, H⟩ := bdE H
      rcases r_48 with r_50 | r_51
      ·let v_52 : Int := wr .i64 (s_34.2.2.2.2.2.2.2.2.2.2.2.1 + r_50.2.2.2.2.2.2.2.2.2.2.2)
       replace H := ltD H
       let v_53 : Int := wr .i64 (s_34.2.2.2.2.2.2.2.2.2.2.2.2 + 1)
       replace H := ltD H
       obtain rfl := sj H
       exact fn [sg_ 15 j_42, br h_44, br h_45, ix api_Inst.c g_46, ca [1, 3] (thread_thread_step_2.ev e_49)] (by kernel_rfl)
      ·obtain rfl := sj H
       exact fn [sg_ 15 j_42, br h_44, br h_45, ix api_Inst.c g_46, ca [1, 3] (thread_thread_step_2.ev e_49)] (by kernel_rfl)) e_36
   rcases o_35 with s_38 | s_39
   ·obtain rfl := sj H
    exact thread_Do_2.F.runD thread_Do_2.G tb mixed [sg_ 1 j_7, br h_11, su j_17, pf (by decide : 0 ≤ (16 : Int)), on_ 53 (sgn [.c (.ro false 5 a_1.length (a_1.map api_Inst.c)), .c (.v (.int .i64 a_2)), .c (.v (.int .i64 v_27)), .c (.ro false 1 a_4.length (a_4.map (cI .i64))), .a 2 32 ((Arr.r 32 ((thread_cell.mk 0 0) : thread_cell) : Arr thread_cell 32).l.map thread_cell.c), .a 2 400 ((Arr.r 400 ((thread_cell.mk 0 0) : thread_cell) : Arr thread_cell 400).l.map thread_cell.c), .c (.v (.bool false)), .c (.v (.bool false)), .c (.v (.int .u64 0)), .c (.v (.int .u64 0)), .c (.v (.int .u64 0)), .c (.v (.int .i64 (-1))), .c (.v (.int .i64 0)), .c (.v (.slice none 0 0))]), pf (by decide : 0 ≤ (1 : Int) ∧ (1 : Int) < ((32 : Nat) : Int)), sgs thread_cell.c (Arr.r 32 ((thread_cell.mk 0 0) : thread_cell) : Arr thread_cell 32) 4 0 [.v (.int .i64 v_27)] (thread_cell.mk v_27 v_28.hang) (by decide : 0 ≤ (1 : Int) ∧ (1 : Int) < ((32 : Nat) : Int)) (by kernel_rfl), pf (by decide : 0 ≤ (2 : Int) ∧ (2 : Int) < ((32 : Nat) : Int)), sgs thread_cell.c v_29 4 0 [.v (.int .i64 65536)] (thread_cell.mk 65536 v_30.hang) (by decide : 0 ≤ (2 : Int) ∧ (2 : Int) < ((32 : Nat) : Int)) (by kernel_rfl), su j_37, adB 1 13 (some 48) 8, au] rfl (by kernel_rfl) (by kernel_rfl)
   ·obtain rfl := sj H
    exact thread_Do_2.F.runD thread_Do_2.G tb mixed [sg_ 1 j_7, br h_11, su j_17, pf (by decide : 0 ≤ (16 : Int)), on_ 53 (sgn [.c (.ro false 5 a_1.length (a_1.map api_Inst.c)), .c (.v (.int .i64 a_2)), .c (.v (.int .i64 v_27)), .c (.ro false 1 a_4.length (a_4.map (cI .i64))), .a 2 32 ((Arr.r 32 ((thread_cell.mk 0 0) : thread_cell) : Arr thread_cell 32).l.map thread_cell.c), .a 2 400 ((Arr.r 400 ((thread_cell.mk 0 0) : thread_cell) : Arr thread_cell 400).l.map thread_cell.c), .c (.v (.bool false)), .c (.v (.bool false)), .c (.v (.int .u64 0)), .c (.v (.int .u64 0)), .c (.v (.int .u64 0)), .c (.v (.int .i64 (-1))), .c (.v (.int .i64 0)), .c (.v (.slice none 0 0))]), pf (by decide : 0 ≤ (1 : Int) ∧ (1 : Int) < ((32 : Nat) : Int)), sgs thread_cell.c (Arr.r 32 ((thread_cell.mk 0 0) : thread_cell) : Arr thread_cell 32) 4 0 [.v (.int .i64 v_27)] (thread_cell.mk v_27 v_28.hang) (by decide : 0 ≤ (1 : Int) ∧ (1 : Int) < ((32 : Nat) : Int)) (by kernel_rfl), pf (by decide : 0 ≤ (2 : Int) ∧ (2 : Int) < ((32 : Nat) : Int)), sgs thread_cell.c v_29 4 0 [.v (.int .i64 65536)] (thread_cell.mk 65536 v_30.hang) (by decide : 0 ≤ (2 : Int) ∧ (2 : Int) < ((32 : Nat) : Int)) (by kernel_rfl), su j_37, adB 1 13 (some 48) 8, au] rfl (by kernel_rfl) (by kernel_rfl)
noncomputable def selvagelaw17_EmitInside.F : FI Try.prog 5 := ⟨Try.f5, 86, (Try.f5.body.getD .skip), Try.f5.results.toList, Try.call5, Try.func5, by kernel_rfl, by kernel_rfl, by kernel_rfl⟩
def selvagelaw17_EmitInside.l1 (s_27 : Unit) : Option (Unit ⊕ Unit) :=
 some (Sum.inr ())
def selvagelaw17_EmitInside.l2 (a_2 : List api_Loc) (r_25 : (List api_Event) × Int) (s_33 : Int) : Option (Int ⊕ (Unit ⊕ Unit)) :=
 if s_33 < (r_25.1.length : Int) then (if 0 ≤ s_33 ∧ s_33 < (r_25.1.length : Int) then (letC (gi r_25.1 s_33) fun v_41 => (if v_41.Kind = 1 then (if v_41.Loc < 0 then (some (true : Bool)) else (some ((decide (v_41.Loc ≥ (a_2.length : Int))) : Bool))) else (if v_41.Kind = 2 then (if v_41.Loc < 0 then (some (true : Bool)) else (some ((decide (v_41.Loc ≥ (a_2.length : Int))) : Bool))) else (some (false : Bool))) : Option Bool).bind fun o_42 => if o_42 = true then (some (Sum.inr (Sum.inl ()))) else (some (Sum.inl (wr .i64 (s_33 + 1))))) else none) else (some (Sum.inr (Sum.inr (()))))
def selvagelaw17_EmitInside.l3 (s_57 : Unit) : Option (Unit ⊕ Unit) :=
 some (Sum.inr ())
def selvagelaw17_EmitInside.l4 (a_2 : List api_Loc) (r_55 : (List api_Event) × Int) (s_63 : Int) : Option (Int ⊕ (Unit ⊕ Unit)) :=
 if s_63 < (r_55.1.length : Int) then (if 0 ≤ s_63 ∧ s_63 < (r_55.1.length : Int) then (letC (gi r_55.1 s_63) fun v_71 => (if v_71.Kind = 1 then (if v_71.Loc < 0 then (some (true : Bool)) else (some ((decide (v_71.Loc ≥ (a_2.length : Int))) : Bool))) else (if v_71.Kind = 2 then (if v_71.Loc < 0 then (some (true : Bool)) else (some ((decide (v_71.Loc ≥ (a_2.length : Int))) : Bool))) else (some (false : Bool))) : Option Bool).bind fun o_72 => if o_72 = true then (some (Sum.inr (Sum.inl ()))) else (some (Sum.inl (wr .i64 (s_63 + 1))))) else none) else (some (Sum.inr (Sum.inr (()))))
def selvagelaw17_EmitInside.l5 (s_86 : Unit) : Option (Unit ⊕ Unit) :=
 some (Sum.inr ())
def selvagelaw17_EmitInside.l6 (a_2 : List api_Loc) (r_84 : (List api_Event) × Int) (s_92 : Int) : Option (Int ⊕ (Unit ⊕ Unit)) :=
 if s_92 < (r_84.1.length : Int) then (if 0 ≤ s_92 ∧ s_92 < (r_84.1.length : Int) then (letC (gi r_84.1 s_92) fun v_100 => (if v_100.Kind = 1 then (if v_100.Loc < 0 then (some (true : Bool)) else (some ((decide (v_100.Loc ≥ (a_2.length : Int))) : Bool))) else (if v_100.Kind = 2 then (if v_100.Loc < 0 then (some (true : Bool)) else (some ((decide (v_100.Loc ≥ (a_2.length : Int))) : Bool))) else (some (false : Bool))) : Option Bool).bind fun o_101 => if o_101 = true then (some (Sum.inr (Sum.inl ()))) else (some (Sum.inl (wr .i64 (s_92 + 1))))) else none) else (some (Sum.inr (Sum.inr (()))))
def selvagelaw17_EmitInside.m (a_1 : List api_Ins) (a_2 : List api_Loc) (a_3 : Int) (a_4 : Int) (a_5 : List Int) : Option (Bool) :=
 (selvagelaw17_awake.m).bind fun r_6 => if r_6 = true then ((letC (selvagelaw17_small.m a_1 a_2 a_5) fun r_12 => if r_12 = true then (if a_4 < 0 then (some (true : Bool)) else (some ((decide (a_4 ≥ 3)) : Bool))) else (some (true : Bool)) : Option Bool).bind fun o_9 => if o_9 = true then (some true) else ((emit_Emit_2.m a_1 a_2 a_3).bind fun r_17 => match r_17 with | Sum.inl r_19 => ((thread_Do_2.m r_19 (a_2.length : Int) a_4 a_5).bind fun r_22 => match r_22 with | Sum.inl r_24 => ((B.loop selvagelaw17_EmitInside.l1 (() : Unit)).bind fun o_28 => some false) | Sum.inr (r_25) => ((B.loop (selvagelaw17_EmitInside.l2 a_2 r_25) (0 : Int)).bind fun o_34 => match o_34 with | Sum.inl s_37 => (some false) | Sum.inr (s_38) => (if r_25.2 = 6 then (some false) else (some (!(decide (r_25.2 = 0))))))) | Sum.inr (Sum.inl r_20) => (if r_20 = 0 then ((thread_Do_2.m ([] : List api_Inst) (a_2.length : Int) a_4 a_5).bind fun r_52 => match r_52 with | Sum.inl r_54 => ((B.loop selvagelaw17_EmitInside.l3 (() : Unit)).bind fun o_58 => some false) | Sum.inr (r_55) => ((B.loop (selvagelaw17_EmitInside.l4 a_2 r_55) (0 : Int)).bind fun o_64 => match o_64 with | Sum.inl s_67 => (some false) | Sum.inr (s_68) => (if r_55.2 = 6 then (some false) else (some (!(decide (r_55.2 = 0))))))) else (some true)) | Sum.inr (Sum.inr (r_21)) => ((thread_Do_2.m r_21.1 (a_2.length : Int) a_4 a_5).bind fun r_81 => match r_81 with | Sum.inl r_83 => ((B.loop selvagelaw17_EmitInside.l5 (() : Unit)).bind fun o_87 => some false) | Sum.inr (r_84) => ((B.loop (selvagelaw17_EmitInside.l6 a_2 r_84) (0 : Int)).bind fun o_93 => match o_93 with | Sum.inl s_96 => (some false) | Sum.inr (s_97) => (if r_84.2 = 6 then (some false) else (some (!(decide (r_84.2 = 0))))))))) else (some false)
noncomputable def selvagelaw17_EmitInside.o (a_1 : List api_Ins) (a_2 : List api_Loc) (a_3 : Int) (a_4 : Int) (a_5 : List Int) (r : Bool) : Out := .ret (.v (.bool r)) [] []
theorem selvagelaw17_EmitInside.ev {a_1 : List api_Ins} {a_2 : List api_Loc} {a_3 : Int} {a_4 : Int} {a_5 : List Int} {r : Bool} (H : selvagelaw17_EmitInside.m a_1 a_2 a_3 a_4 a_5 = some r) : Ev Try.prog 5 [.ro false 8 a_1.length (a_1.map api_Ins.c), .ro false 2 a_2.length (a_2.map api_Loc.c), .v (.int .i64 a_3), .v (.int .i64 a_4), .ro false 1 a_5.length (a_5.map (cI .i64))] [] [] (selvagelaw17_EmitInside.o a_1 a_2 a_3 a_4 a_5 r) := by
 unfold selvagelaw17_EmitInside.m at H
 obtain ⟨r_6, e_7, H⟩ := bdE H
 rcases ie H with ⟨h_8, H⟩ | ⟨h_8, H⟩
 ·obtain ⟨o_9, e_10, H⟩ := bdE H
  have j_11 : Runs Try.prog selvagelaw17_EmitInside.F.N 0 (sub_ selvagelaw17_EmitInside.F.c [1, 1, 0, 0]) ⟨[(0, .ro false 8 a_1.length (a_1.map api_Ins.c)), (1, .ro false 2 a_2.length (a_2.map api_Loc.c)), (2, .v (.int .i64 a_3)), (3, .v (.int .i64 a_4)), (4, .ro false 1 a_5.length (a_5.map (cI .i64)))], [], []⟩ ((fun _ => .normal : Bool → Ex) o_9) ((fun o_9 => ⟨[(0, .ro false 8 a_1.length (a_1.map api_Ins.c)), (1, .ro false 2 a_2.length (a_2.map api_Loc.c)), (2, .v (.int .i64 a_3)), (3, .v (.int .i64 a_4)), (4, .ro false 1 a_5.length (a_5.map (cI .i64))), (30, .v (.bool o_9))], [], []⟩ : Bool → ASt) o_9) := by
   clear H
   have H := e_10
   clear e_10
   obtain ⟨r_12, e_13, H⟩ := ltE H
   rcases ie H with ⟨h_14, H⟩ | ⟨h_14, H⟩
   ·rcases ic H with ⟨h_15, H⟩ | ⟨h_15, H⟩
    ·obtain rfl := sj H
     exact fn [ca [] (selvagelaw17_small.ev e_13), bn h_14, pF, br h_15, pT] (by kernel_rfl)
    ·obtain rfl := sj H
     exact fn [ca [] (selvagelaw17_small.ev e_13), bn h_14, pF, br h_15, pF] (by kernel_rfl)
   ·obtain rfl := sj H
    exact fn [ca [] (selvagelaw17_small.ev e_13), bn h_14, pT, au, pT] (by kernel_rfl)
  rcases ie H with ⟨h_16, H⟩ | ⟨h_16, H⟩
  ·obtain rfl := sj H
   exact selvagelaw17_EmitInside.F.run tb mixed [ca [] (selvagelaw17_awake.ev e_7), bn h_8, sg_ 3 j_11, br h_16] rfl (by kernel_rfl)
  ·obtain ⟨r_17, e_18, H⟩ := bdE H
   rcases r_17 with r_19 | r_20 | r_21
   ·obtain ⟨r_22, e_23, H⟩ := bdE H
    rcases r_22 with r_24 | r_25
    ·obtain ⟨o_28, e_29, H⟩ := bdE H
     have j_30 := Runs.loop (P := Try.prog) (N := selvagelaw17_EmitInside.F.N) (m0 := 0) (c := sub_ selvagelaw17_EmitInside.F.c [1, 1, 1, 1, 1, 1, 0, 1, 0, 0]) (f := selvagelaw17_EmitInside.l1) (St := fun s_27 => ⟨[(1, .ro false 2 a_2.length (a_2.map api_Loc.c)), (13, .ref 2 0), (14, .v (.int .i64 0))], [.dead, .dead, .box [.v (.slice none 0 0), .v (.int .i64 0)]], []⟩) (xo := (fun _ => (.exit 0) : Unit → Ex)) (So := (fun o_28 => ⟨[(13, .ref 2 0)], [.dead, .dead, .box [.v (.slice none 0 0), .v (.int .i64 0)]], []⟩ : Unit → ASt)) (by intro o; simp) (fun s_27 z H => by
      unfold selvagelaw17_EmitInside.l1 at H
      obtain rfl := sj H
      exact fn [au] (by kernel_rfl)) e_29
     obtain rfl := sj H
     exact selvagelaw17_EmitInside.F.run tb mixed [ca [] (selvagelaw17_awake.ev e_7), bn h_8, sg_ 3 j_11, br h_16, ca [] (emit_Emit_2.ev e_18), au, here 8, frz 1 [11] [], ca [] (thread_Do_2.ev e_23), su j_30, au, pT] rfl (by kernel_rfl)
    ·obtain ⟨o_34, e_35, H⟩ := bdE H
     have j_36 := Runs.loop (P := Try.prog) (N := selvagelaw17_EmitInside.F.N) (m0 := 0) (c := sub_ selvagelaw17_EmitInside.F.c [1, 1, 1, 1, 1, 1, 0, 1, 0, 0]) (f := (selvagelaw17_EmitInside.l2 a_2 r_25)) (St := fun s_33 => ⟨[(1, .ro false 2 a_2.length (a_2.map api_Loc.c)), (13, .ref 6 0), (14, .v (.int .i64 s_33))], [.dead, .dead, .dead, .dead, .dead, .arr true 48 8 r_25.1.length (r_25.1.map api_Event.c), .box [.sl 0 5 r_25.1.length 0 r_25.1.length, .v (.int .i64 r_25.2)]], []⟩) (xo := (fun o => match o with | Sum.inl _ => .ret | Sum.inr (_) => (.exit 0) : (Unit ⊕ Unit) → Ex)) (So := (fun o => match o with | Sum.inl s_37 => ⟨[(10, .v (.bool false))], [], []⟩ | Sum.inr (s_38) => ⟨[(13, .ref 6 0)], [.dead, .dead, .dead, .dead, .dead, .arr true 48 8 r_25.1.length (r_25.1.map api_Event.c), .box [.sl 0 5 r_25.1.length 0 r_25.1.length, .v (.int .i64 r_25.2)]], []⟩ : (Unit ⊕ Unit) → ASt)) (by intro o; rcases o with _ | _ <;> simp) (fun s_33 z H => by
      unfold selvagelaw17_EmitInside.l2 at H
      rcases ic H with ⟨h_39, H⟩ | ⟨h_39, H⟩
      ·obtain ⟨g_40, H⟩ := gdE H
       let v_41 : api_Event := gi r_25.1 s_33
       replace H := ltD H
       obtain ⟨o_42, e_43, H⟩ := bdE H
       have j_44 : Runs Try.prog selvagelaw17_EmitInside.F.N 0 (sub_ selvagelaw17_EmitInside.F.c [1, 1, 1, 1, 1, 1, 0, 1, 0, 0, 1, 0, 0, 1, 0]) ⟨[(1, .ro false 2 a_2.length (a_2.map api_Loc.c)), (13, .ref 6 0), (14, .v (.int .i64 s_33)), (15, .ref 7 0)], [.dead, .dead, .dead, .dead, .dead, .arr true 48 8 r_25.1.length (r_25.1.map api_Event.c), .box [.sl 0 5 r_25.1.length 0 r_25.1.length, .v (.int .i64 r_25.2)], .box (api_Event.c v_41)], []⟩ ((fun _ => .normal : Bool → Ex) o_42) ((fun o_42 => ⟨[(1, .ro false 2 a_2.length (a_2.map api_Loc.c)), (13, .ref 6 0), (14, .v (.int .i64 s_33)), (77, .v (.bool o_42))], [.dead, .dead, .dead, .dead, .dead, .arr true 48 8 r_25.1.length (r_25.1.map api_Event.c), .box [.sl 0 5 r_25.1.length 0 r_25.1.length, .v (.int .i64 r_25.2)]], []⟩ : Bool → ASt) o_42) := by
        clear H
        have H := e_43
        clear e_43
        rcases ic H with ⟨h_45, H⟩ | ⟨h_45, H⟩
        ·rcases ic H with ⟨h_46, H⟩ | ⟨h_46, H⟩
         ·obtain rfl := sj H
          exact fn [br h_45, pT, au, br h_46, pT, pT] (by kernel_rfl)
         ·obtain rfl := sj H
          exact fn [br h_45, pT, au, br h_46, pF, pT] (by kernel_rfl)
        ·rcases ic H with ⟨h_47, H⟩ | ⟨h_47, H⟩
         ·rcases ic H with ⟨h_48, H⟩ | ⟨h_48, H⟩
          ·obtain rfl := sj H
           exact fn [br h_45, pF, br h_47, br h_48, pT, pT] (by kernel_rfl)
          ·obtain rfl := sj H
           exact fn [br h_45, pF, br h_47, br h_48, pF, pT] (by kernel_rfl)
         ·obtain rfl := sj H
          exact fn [br h_45, pF, br h_47, pF] (by kernel_rfl)
       rcases ie H with ⟨h_49, H⟩ | ⟨h_49, H⟩
       ·obtain rfl := sj H
        exact fn [br h_39, pf g_40, el api_Event.c g_40, sg_ 13 j_44, br h_49] (by kernel_rfl)
       ·obtain rfl := sj H
        exact fn [br h_39, pf g_40, el api_Event.c g_40, sg_ 13 j_44, br h_49] (by kernel_rfl)
      ·obtain rfl := sj H
       exact fn [br h_39] (by kernel_rfl)) e_35
     rcases o_34 with s_37 | s_38
     ·obtain rfl := sj H
      exact selvagelaw17_EmitInside.F.run tb mixed [ca [] (selvagelaw17_awake.ev e_7), bn h_8, sg_ 3 j_11, br h_16, ca [] (emit_Emit_2.ev e_18), au, here 8, frz 1 [11] [], ca [] (thread_Do_2.ev e_23), su j_36] rfl (by kernel_rfl)
     ·rcases ic H with ⟨h_50, H⟩ | ⟨h_50, H⟩
      ·obtain rfl := sj H
       exact selvagelaw17_EmitInside.F.run tb mixed [ca [] (selvagelaw17_awake.ev e_7), bn h_8, sg_ 3 j_11, br h_16, ca [] (emit_Emit_2.ev e_18), au, here 8, frz 1 [11] [], ca [] (thread_Do_2.ev e_23), su j_36, bn h_50, pF] rfl (by kernel_rfl)
      ·obtain rfl := sj H
       exact selvagelaw17_EmitInside.F.run tb mixed [ca [] (selvagelaw17_awake.ev e_7), bn h_8, sg_ 3 j_11, br h_16, ca [] (emit_Emit_2.ev e_18), au, here 8, frz 1 [11] [], ca [] (thread_Do_2.ev e_23), su j_36, bn h_50, pT] rfl (by kernel_rfl)
   ·rcases ic H with ⟨h_51, H⟩ | ⟨h_51, H⟩
    ·obtain ⟨r_52, e_53, H⟩ := bdE H
     rcases r_52 with r_54 | r_55
     ·obtain ⟨o_58, e_59, H⟩ := bdE H
      have j_60 := Runs.loop (P := Try.prog) (N := selvagelaw17_EmitInside.F.N) (m0 := 0) (c := sub_ selvagelaw17_EmitInside.F.c [1, 1, 1, 1, 1, 1, 0, 1, 0, 0]) (f := selvagelaw17_EmitInside.l3) (St := fun s_57 => ⟨[(1, .ro false 2 a_2.length (a_2.map api_Loc.c)), (13, .ref 0 0), (14, .v (.int .i64 0))], [.box [.v (.slice none 0 0), .v (.int .i64 0)]], []⟩) (xo := (fun _ => (.exit 0) : Unit → Ex)) (So := (fun o_58 => ⟨[(13, .ref 0 0)], [.box [.v (.slice none 0 0), .v (.int .i64 0)]], []⟩ : Unit → ASt)) (by intro o; simp) (fun s_57 z H => by
       unfold selvagelaw17_EmitInside.l3 at H
       obtain rfl := sj H
       exact fn [au] (by kernel_rfl)) e_59
      obtain rfl := sj H
      exact selvagelaw17_EmitInside.F.run tb mixed [ca [] (selvagelaw17_awake.ev e_7), bn h_8, sg_ 3 j_11, br h_16, ca [] (emit_Emit_2.ev e_18), on_ 11 (nzm 5), bn h_51, ca [] (thread_Do_2.ev e_53), su j_60, au, pT] rfl (by kernel_rfl)
     ·obtain ⟨o_64, e_65, H⟩ := bdE H
      have j_66 := Runs.loop (P := Try.prog) (N := selvagelaw17_EmitInside.F.N) (m0 := 0) (c := sub_ selvagelaw17_EmitInside.F.c [1, 1, 1, 1, 1, 1, 0, 1, 0, 0]) (f := (selvagelaw17_EmitInside.l4 a_2 r_55)) (St := fun s_63 => ⟨[(1, .ro false 2 a_2.length (a_2.map api_Loc.c)), (13, .ref 4 0), (14, .v (.int .i64 s_63))], [.dead, .dead, .dead, .arr true 48 8 r_55.1.length (r_55.1.map api_Event.c), .box [.sl 0 3 r_55.1.length 0 r_55.1.length, .v (.int .i64 r_55.2)]], []⟩) (xo := (fun o => match o with | Sum.inl _ => .ret | Sum.inr (_) => (.exit 0) : (Unit ⊕ Unit) → Ex)) (So := (fun o => match o with | Sum.inl s_67 => ⟨[(10, .v (.bool false))], [], []⟩ | Sum.inr (s_68) => ⟨[(13, .ref 4 0)], [.dead, .dead, .dead, .arr true 48 8 r_55.1.length (r_55.1.map api_Event.c), .box [.sl 0 3 r_55.1.length 0 r_55.1.length, .v (.int .i64 r_55.2)]], []⟩ : (Unit ⊕ Unit) → ASt)) (by intro o; rcases o with _ | _ <;> simp) (fun s_63 z H => by
       unfold selvagelaw17_EmitInside.l4 at H
       rcases ic H with ⟨h_69, H⟩ | ⟨h_69, H⟩
       ·obtain ⟨g_70, H⟩ := gdE H
        let v_71 : api_Event := gi r_55.1 s_63
        replace H := ltD H
        obtain ⟨o_72, e_73, H⟩ := bdE H
        have j_74 : Runs Try.prog selvagelaw17_EmitInside.F.N 0 (sub_ selvagelaw17_EmitInside.F.c [1, 1, 1, 1, 1, 1, 0, 1, 0, 0, 1, 0, 0, 1, 0]) ⟨[(1, .ro false 2 a_2.length (a_2.map api_Loc.c)), (13, .ref 4 0), (14, .v (.int .i64 s_63)), (15, .ref 5 0)], [.dead, .dead, .dead, .arr true 48 8 r_55.1.length (r_55.1.map api_Event.c), .box [.sl 0 3 r_55.1.length 0 r_55.1.length, .v (.int .i64 r_55.2)], .box (api_Event.c v_71)], []⟩ ((fun _ => .normal : Bool → Ex) o_72) ((fun o_72 => ⟨[(1, .ro false 2 a_2.length (a_2.map api_Loc.c)), (13, .ref 4 0), (14, .v (.int .i64 s_63)), (77, .v (.bool o_72))], [.dead, .dead, .dead, .arr true 48 8 r_55.1.length (r_55.1.map api_Event.c), .box [.sl 0 3 r_55.1.length 0 r_55.1.length, .v (.int .i64 r_55.2)]], []⟩ : Bool → ASt) o_72) := by
         clear H
         have H := e_73
         clear e_73
         rcases ic H with ⟨h_75, H⟩ | ⟨h_75, H⟩
         ·rcases ic H with ⟨h_76, H⟩ | ⟨h_76, H⟩
          ·obtain rfl := sj H
           exact fn [br h_75, pT, au, br h_76, pT, pT] (by kernel_rfl)
          ·obtain rfl := sj H
           exact fn [br h_75, pT, au, br h_76, pF, pT] (by kernel_rfl)
         ·rcases ic H with ⟨h_77, H⟩ | ⟨h_77, H⟩
          ·rcases ic H with ⟨h_78, H⟩ | ⟨h_78, H⟩
           ·obtain rfl := sj H
            exact fn [br h_75, pF, br h_77, br h_78, pT, pT] (by kernel_rfl)
           ·obtain rfl := sj H
            exact fn [br h_75, pF, br h_77, br h_78, pF, pT] (by kernel_rfl)
          ·obtain rfl := sj H
           exact fn [br h_75, pF, br h_77, pF] (by kernel_rfl)
        rcases ie H with ⟨h_79, H⟩ | ⟨h_79, H⟩
        ·obtain rfl := sj H
         exact fn [br h_69, pf g_70, el api_Event.c g_70, sg_ 13 j_74, br h_79] (by kernel_rfl)
        ·obtain rfl := sj H
         exact fn [br h_69, pf g_70, el api_Event.c g_70, sg_ 13 j_74, br h_79] (by kernel_rfl)
       ·obtain rfl := sj H
        exact fn [br h_69] (by kernel_rfl)) e_65
      rcases o_64 with s_67 | s_68
      ·obtain rfl := sj H
       exact selvagelaw17_EmitInside.F.run tb mixed [ca [] (selvagelaw17_awake.ev e_7), bn h_8, sg_ 3 j_11, br h_16, ca [] (emit_Emit_2.ev e_18), on_ 11 (nzm 5), bn h_51, ca [] (thread_Do_2.ev e_53), su j_66] rfl (by kernel_rfl)
      ·rcases ic H with ⟨h_80, H⟩ | ⟨h_80, H⟩
       ·obtain rfl := sj H
        exact selvagelaw17_EmitInside.F.run tb mixed [ca [] (selvagelaw17_awake.ev e_7), bn h_8, sg_ 3 j_11, br h_16, ca [] (emit_Emit_2.ev e_18), on_ 11 (nzm 5), bn h_51, ca [] (thread_Do_2.ev e_53), su j_66, bn h_80, pF] rfl (by kernel_rfl)
       ·obtain rfl := sj H
        exact selvagelaw17_EmitInside.F.run tb mixed [ca [] (selvagelaw17_awake.ev e_7), bn h_8, sg_ 3 j_11, br h_16, ca [] (emit_Emit_2.ev e_18), on_ 11 (nzm 5), bn h_51, ca [] (thread_Do_2.ev e_53), su j_66, bn h_80, pT] rfl (by kernel_rfl)
    ·obtain rfl := sj H
     exact selvagelaw17_EmitInside.F.run tb mixed [ca [] (selvagelaw17_awake.ev e_7), bn h_8, sg_ 3 j_11, br h_16, ca [] (emit_Emit_2.ev e_18), on_ 11 (nzm 5), bn h_51] rfl (by kernel_rfl)
   ·obtain ⟨r_81, e_82, H⟩ := bdE H
    rcases r_81 with r_83 | r_84
    ·obtain ⟨o_87, e_88, H⟩ := bdE H
     have j_89 := Runs.loop (P := Try.prog) (N := selvagelaw17_EmitInside.F.N) (m0 := 0) (c := sub_ selvagelaw17_EmitInside.F.c [1, 1, 1, 1, 1, 1, 0, 1, 0, 0]) (f := selvagelaw17_EmitInside.l5) (St := fun s_86 => ⟨[(1, .ro false 2 a_2.length (a_2.map api_Loc.c)), (13, .ref 3 0), (14, .v (.int .i64 0))], [.dead, .dead, .dead, .box [.v (.slice none 0 0), .v (.int .i64 0)]], []⟩) (xo := (fun _ => (.exit 0) : Unit → Ex)) (So := (fun o_87 => ⟨[(13, .ref 3 0)], [.dead, .dead, .dead, .box [.v (.slice none 0 0), .v (.int .i64 0)]], []⟩ : Unit → ASt)) (by intro o; simp) (fun s_86 z H => by
      unfold selvagelaw17_EmitInside.l5 at H
      obtain rfl := sj H
      exact fn [au] (by kernel_rfl)) e_88
     obtain rfl := sj H
     exact selvagelaw17_EmitInside.F.run tb mixed [ca [] (selvagelaw17_awake.ev e_7), bn h_8, sg_ 3 j_11, br h_16, ca [] (emit_Emit_2.ev e_18), au, here 8, frz 2 [11] [], ron 11 none api_Inst.c r_21.1, ca [] (thread_Do_2.ev e_82), su j_89, au, pT] rfl (by kernel_rfl)
    ·obtain ⟨o_93, e_94, H⟩ := bdE H
     have j_95 := Runs.loop (P := Try.prog) (N := selvagelaw17_EmitInside.F.N) (m0 := 0) (c := sub_ selvagelaw17_EmitInside.F.c [1, 1, 1, 1, 1, 1, 0, 1, 0, 0]) (f := (selvagelaw17_EmitInside.l6 a_2 r_84)) (St := fun s_92 => ⟨[(1, .ro false 2 a_2.length (a_2.map api_Loc.c)), (13, .ref 7 0), (14, .v (.int .i64 s_92))], [.dead, .dead, .dead, .dead, .dead, .dead, .arr true 48 8 r_84.1.length (r_84.1.map api_Event.c), .box [.sl 0 6 r_84.1.length 0 r_84.1.length, .v (.int .i64 r_84.2)]], []⟩) (xo := (fun o => match o with | Sum.inl _ => .ret | Sum.inr (_) => (.exit 0) : (Unit ⊕ Unit) → Ex)) (So := (fun o => match o with | Sum.inl s_96 => ⟨[(10, .v (.bool false))], [], []⟩ | Sum.inr (s_97) => ⟨[(13, .ref 7 0)], [.dead, .dead, .dead, .dead, .dead, .dead, .arr true 48 8 r_84.1.length (r_84.1.map api_Event.c), .box [.sl 0 6 r_84.1.length 0 r_84.1.length, .v (.int .i64 r_84.2)]], []⟩ : (Unit ⊕ Unit) → ASt)) (by intro o; rcases o with _ | _ <;> simp) (fun s_92 z H => by
      unfold selvagelaw17_EmitInside.l6 at H
      rcases ic H with ⟨h_98, H⟩ | ⟨h_98, H⟩
      ·obtain ⟨g_99, H⟩ := gdE H
       let v_100 : api_Event := gi r_84.1 s_92
       replace H := ltD H
       obtain ⟨o_101, e_102, H⟩ := bdE H
       have j_103 : Runs Try.prog selvagelaw17_EmitInside.F.N 0 (sub_ selvagelaw17_EmitInside.F.c [1, 1, 1, 1, 1, 1, 0, 1, 0, 0, 1, 0, 0, 1, 0]) ⟨[(1, .ro false 2 a_2.length (a_2.map api_Loc.c)), (13, .ref 7 0), (14, .v (.int .i64 s_92)), (15, .ref 8 0)], [.dead, .dead, .dead, .dead, .dead, .dead, .arr true 48 8 r_84.1.length (r_84.1.map api_Event.c), .box [.sl 0 6 r_84.1.length 0 r_84.1.length, .v (.int .i64 r_84.2)], .box (api_Event.c v_100)], []⟩ ((fun _ => .normal : Bool → Ex) o_101) ((fun o_101 => ⟨[(1, .ro false 2 a_2.length (a_2.map api_Loc.c)), (13, .ref 7 0), (14, .v (.int .i64 s_92)), (77, .v (.bool o_101))], [.dead, .dead, .dead, .dead, .dead, .dead, .arr true 48 8 r_84.1.length (r_84.1.map api_Event.c), .box [.sl 0 6 r_84.1.length 0 r_84.1.length, .v (.int .i64 r_84.2)]], []⟩ : Bool → ASt) o_101) := by
        clear H
        have H := e_102
        clear e_102
        rcases ic H with ⟨h_104, H⟩ | ⟨h_104, H⟩
        ·rcases ic H with ⟨h_105, H⟩ | ⟨h_105, H⟩
         ·obtain rfl := sj H
          exact fn [br h_104, pT, au, br h_105, pT, pT] (by kernel_rfl)
         ·obtain rfl := sj H
          exact fn [br h_104, pT, au, br h_105, pF, pT] (by kernel_rfl)
        ·rcases ic H with ⟨h_106, H⟩ | ⟨h_106, H⟩
         ·rcases ic H with ⟨h_107, H⟩ | ⟨h_107, H⟩
          ·obtain rfl := sj H
           exact fn [br h_104, pF, br h_106, br h_107, pT, pT] (by kernel_rfl)
          ·obtain rfl := sj H
           exact fn [br h_104, pF, br h_106, br h_107, pF, pT] (by kernel_rfl)
         ·obtain rfl := sj H
          exact fn [br h_104, pF, br h_106, pF] (by kernel_rfl)
       rcases ie H with ⟨h_108, H⟩ | ⟨h_108, H⟩
       ·obtain rfl := sj H
        exact fn [br h_98, pf g_99, el api_Event.c g_99, sg_ 13 j_103, br h_108] (by kernel_rfl)
       ·obtain rfl := sj H
        exact fn [br h_98, pf g_99, el api_Event.c g_99, sg_ 13 j_103, br h_108] (by kernel_rfl)
      ·obtain rfl := sj H
       exact fn [br h_98] (by kernel_rfl)) e_94
     rcases o_93 with s_96 | s_97
     ·obtain rfl := sj H
      exact selvagelaw17_EmitInside.F.run tb mixed [ca [] (selvagelaw17_awake.ev e_7), bn h_8, sg_ 3 j_11, br h_16, ca [] (emit_Emit_2.ev e_18), au, here 8, frz 2 [11] [], ron 11 none api_Inst.c r_21.1, ca [] (thread_Do_2.ev e_82), su j_95] rfl (by kernel_rfl)
     ·rcases ic H with ⟨h_109, H⟩ | ⟨h_109, H⟩
      ·obtain rfl := sj H
       exact selvagelaw17_EmitInside.F.run tb mixed [ca [] (selvagelaw17_awake.ev e_7), bn h_8, sg_ 3 j_11, br h_16, ca [] (emit_Emit_2.ev e_18), au, here 8, frz 2 [11] [], ron 11 none api_Inst.c r_21.1, ca [] (thread_Do_2.ev e_82), su j_95, bn h_109, pF] rfl (by kernel_rfl)
      ·obtain rfl := sj H
       exact selvagelaw17_EmitInside.F.run tb mixed [ca [] (selvagelaw17_awake.ev e_7), bn h_8, sg_ 3 j_11, br h_16, ca [] (emit_Emit_2.ev e_18), au, here 8, frz 2 [11] [], ron 11 none api_Inst.c r_21.1, ca [] (thread_Do_2.ev e_82), su j_95, bn h_109, pT] rfl (by kernel_rfl)
 ·obtain rfl := sj H
  exact selvagelaw17_EmitInside.F.run tb mixed [ca [] (selvagelaw17_awake.ev e_7), bn h_8] rfl (by kernel_rfl)
end Go.Proofs.Ytbhekpcimmaijaa
